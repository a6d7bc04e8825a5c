import Derived.Test.YthoijjeddhfcnaaGreatW22
import Derived.Test.YthoijjeddhfcnaaGreatW11
import Derived.Test.YthoijjeddhfcnaaGreatW21
import Derived.Laws.IdiomCopy
set_option maxHeartbeats 4000000
set_option maxRecDepth 100000
set_option linter.unusedSimpArgs false
set_option linter.unusedVariables false
namespace Go.Proofs.YthoijjeddhfcnaaGreat
open Go.RowKit
def asideG (S:Setup) (i j:Int) (M:MemS):Prop:=¬ ovl (hullB (bounds (S.body i.toNat).sh ⟨(motM S M i).px,(motM S M i).py⟩) (bounds (S.body i.toNat).sh (vadd ⟨(motM S M i).px,(motM S M i).py⟩ ⟨(motM S M i).vx,(motM S M i).vy⟩))) (bounds (S.body j.toNat).sh ⟨(motM S M j).px,(motM S M j).py⟩)
instance (S:Setup) (i j:Int) (M:MemS):Decidable (asideG S i j M):=inferInstanceAs (Decidable (¬ _))
def frcE (S:Setup) (i:Int):Int -> Nat -> Int -> MemS -> Int
  | _,0,f,_=>f
  | j,k+1,f,M=>frcE S i (j+1) k (if i=j then f else if asideG S i j M then f else if earG S i j M < f then earG S i j M else f) M
theorem ear_aside {S:Setup} {M:MemS} (h:BiA S M) {i j:Int} (hi:0 <= i /\ i < S.nb) (hj:0 <= j /\ j < S.nb) (hs:smS (S.body i.toNat).sh) (ha:asideG S i j M):earG S i j M=1024:=by
  obtain ⟨a1,a2,a3,a4⟩:=bi_mot h hi.1 hi.2
  obtain ⟨b1,b2,_,_⟩:=bi_mot h hj.1 hj.2
  show earlS (S.body i.toNat).sh ⟨(motM S M i).px,(motM S M i).py⟩ ⟨(motM S M i).vx,(motM S M i).vy⟩ (S.body j.toNat).sh ⟨(motM S M j).px,(motM S M j).py⟩ ⟨0,0⟩=1024
  exact aside_ear hs (by simp only;omega) (by simp only;omega) (by unfold smP;simp only;omega) ha
theorem frc_skip {S:Setup} {M:MemS} (h:BiA S M) {i:Int} (hi:0 <= i /\ i < S.nb) (hs:smS (S.body i.toNat).sh):∀ (k:Nat) (j f:Int),0 <= j -> j+k <= S.nb -> f <= 1024 -> frcE S i j k f M=frcG S i j k f M
  | 0,_,_,_,_,_=>rfl
  | k+1,j,f,h0,hk,hf=>by
    rw [frcE,frcG]
    have e:(if i=j then f else if asideG S i j M then f else if earG S i j M < f then earG S i j M else f)=(if i=j then f else if earG S i j M < f then earG S i j M else f):=by
      by_cases c1:i=j
      · rw [if_pos c1,if_pos c1]
      · rw [if_neg c1,if_neg c1]
        by_cases c2:asideG S i j M
        · rw [if_pos c2,ear_aside h hi ⟨h0,by omega⟩ hs c2,if_neg (by omega)]
        · rw [if_neg c2]
    rw [e]
    refine frc_skip h hi hs k (j+1) _ (by omega) (by omega) ?_
    split
    · exact hf
    · split <;> omega
def chC (S:Setup) (y:Int):Prop:=∃ k c:Int,0 <= k /\ k < S.nb /\ (c=0 \/ c=1 \/ c=2 \/ c=3 \/ c=6) /\ y=bodyAt S k+c
structure KpB (S:Setup) (A B:MemS):Prop where
  len:B.cs.length=A.cs.length
  get:∀ y,¬ chC S y -> B.get y=A.get y
theorem KpB.refl {S:Setup} (A:MemS):KpB S A A:=⟨rfl,λ _ _=>rfl⟩
theorem KpB.trans {S:Setup} {A B C:MemS} (h:KpB S A B) (h':KpB S B C):KpB S A C:=⟨h'.len.trans h.len,λ y hy=>(h'.get y hy).trans (h.get y hy)⟩
theorem KpB.set {S:Setup} {A B:MemS} (h:KpB S A B) {k c:Int} (h0:0 <= k) (h1:k < S.nb) (hc:c=0 \/ c=1 \/ c=2 \/ c=3 \/ c=6) (v:Int):KpB S A (B.set (bodyAt S k+c) v):=⟨(vset_len _ _ _).trans h.len,λ y hy=>by
  rw [vget_ne (λ e=>hy ⟨k,c,h0,h1,hc,e⟩)]
  exact h.get y hy⟩
theorem kc_setMot {S:Setup} {A B:MemS} (h:KpB S A B) (t:Stp) (ht:t.S=S) {k:Int} (hk:0 <= k /\ k < S.nb) (m:Mot):KpB S A (setMotM t k m B):=by
  unfold setMotM
  rw [ht]
  exact (((h.set hk.1 hk.2 (by omega) _).set hk.1 hk.2 (by omega) _).set hk.1 hk.2 (by omega) _).set hk.1 hk.2 (by omega) _
theorem kc_ite {S:Setup} {c:Prop} [Decidable c] {M A B:MemS} (h1:c -> KpB S M A) (h2:¬ c -> KpB S M B):KpB S M (if c then A else B):=by
  split
  · exact h1 (by assumption)
  · exact h2 (by assumption)
theorem kc_con {S:Setup} (i j:Int) (M:MemS):KpB S M (conG S i j M):=by
  unfold conG touchF
  refine kc_ite (λ hi=>kc_ite (λ hj=>kc_ite (λ _=>?_) λ _=>.refl M) λ _=>.refl M) λ _=>.refl M
  have hi':0 <= i /\ i < (S.nb:Int):=hi
  have hj':0 <= j /\ j < (S.nb:Int):=hj
  unfold touchSet
  generalize resT (stp0 S i j) M=r
  exact ((kc_setMot (kc_setMot (.refl M) (stp0 S i j) rfl hi' r.1) (stp0 S i j) rfl hj' r.2).set hi'.1 hi'.2 (by omega) _).set hj'.1 hj'.2 (by omega) _
theorem kc_place {S:Setup} {A B:MemS} (h:KpB S A B) {i:Int} (hi:0 <= i /\ i < S.nb) {c:Int} (hc:c=0 \/ c=1) (pos lo up:Int):KpB S A (placeM (stp0 S i 0) (bodyAt S i+c) (bodyAt S i+(c+2)) pos lo up B):=by
  unfold placeM
  split
  · exact h.set hi.1 hi.2 (by omega) _
  · exact (h.set hi.1 hi.2 (by omega) _).set hi.1 hi.2 (by omega) _
theorem kc_mv {S:Setup} (i:Int) (M:MemS):KpB S M (mvG S i M):=by
  unfold mvG
  split
  · next hm =>
    have h1:=kc_place (KpB.refl M) hm.has (c:=0) (.inl rfl) (trvP S i (frcG S i 0 S.nb 1024 M) M).x S.box.x0 S.box.x1
    exact kc_place h1 hm.has (c:=1) (.inr rfl) (trvP S i (frcG S i 0 S.nb 1024 M) M).y S.box.y0 S.box.y1
  · exact .refl M
theorem kc_inn {S:Setup} (i:Int):∀ (k:Nat) (j:Int) (M:MemS),KpB S M (innG S i j k M)
  | 0,_,M=>.refl M
  | k+1,j,M=>(kc_con i j M).trans (kc_inn i k (j+1) _)
theorem kc_out {S:Setup}:∀ (k:Nat) (i:Int) (M:MemS),KpB S M (outG S i k M)
  | 0,_,M=>.refl M
  | k+1,i,M=>(kc_inn i k (i+1) M).trans (kc_out k (i+1) _)
theorem kc_rnd {S:Setup}:∀ (k:Nat) (M:MemS),KpB S M (rndG S k M)
  | 0,M=>.refl M
  | k+1,M=>(kc_out S.nb 0 M).trans (kc_rnd k _)
theorem kc_mvs {S:Setup}:∀ (k:Nat) (i:Int) (M:MemS),KpB S M (mvsG S i k M)
  | 0,_,M=>.refl M
  | k+1,i,M=>(kc_mv i M).trans (kc_mvs k (i+1) _)
theorem kc_col (S:Setup) (M:MemS):KpB S M (colG S M):=by
  unfold colG
  refine KpB.trans ?_ (kc_mvs S.nb 0 _)
  split
  · exact .refl M
  · exact kc_rnd _ M
structure WR (S:Setup) (W:MemS) (bl:List Mot) (hl:List Int) (xl:List Bx):Prop where
  len:(W.cs.length:Int)=sizeOf S
  lb:bl.length=S.nb
  lh:hl.length=S.nb
  lx:xl.length=S.nb
  b:∀ k,k < S.nb -> bl.getD k dMot=motM S W k
  h:∀ k,k < S.nb -> hl.getD k 0=W.get (bodyAt S k+6)
  x:∀ k,k < S.nb -> xl.getD k dBx=bounds (S.body k).sh ⟨(motM S W k).px,(motM S W k).py⟩
theorem getD_set {α:Type} {l:List α} {i:Nat} (h:i < l.length) (x d:α) (k:Nat):(l.set i x).getD k d=if k=i then x else l.getD k d:=by
  rw [List.getD_eq_getElem?_getD,List.getD_eq_getElem?_getD]
  by_cases e:k=i
  · subst e
    rw [if_pos rfl,List.getElem?_set_self h]
    rfl
  · rw [if_neg e,List.getElem?_set_ne (λ h2=>e h2.symm)]
theorem mot_setMot {S:Setup} (hP:0 <= S.players) {t:Stp} (ht:t.S=S) {M:MemS} (hl:(M.cs.length:Int)=sizeOf S) {i k:Int} (hi:0 <= i /\ i < S.nb) (hk:0 <= k /\ k < S.nb) (m:Mot):motM S (setMotM t i m M) k=if k=i then ⟨m.px,m.py,m.vx,m.vy,(S.body k.toNat).mot.inv⟩ else motM S M k:=by
  have e1:=bat (S:=S) hi.1 hi.2
  have e2:=bat (S:=S) hk.1 hk.2
  have hz:sizeOf S=48+4 * S.players+8 * S.nb:=rfl
  unfold setMotM motM
  rw [ht]
  by_cases e:k=i
  · subst e
    rw [if_pos rfl]
    rw [vget_ne (by omega),vget_ne (by omega),vget_ne (by omega),vget_eq (by omega)]
    rw [vget_ne (by omega),vget_ne (by omega),vget_eq (by rw [vset_len];omega)]
    rw [vget_ne (by omega),vget_eq (by simp only [vset_len];omega)]
    rw [vget_eq (by simp only [vset_len];omega)]
  · rw [if_neg e]
    have n:∀ c d:Int,0 <= c -> c < 4 -> 0 <= d -> d < 4 -> bodyAt S k+c ≠ bodyAt S i+d:=λ c d _ _ _ _=>by omega
    congr 1 <;> (rw [vget_ne (n _ _ (by decide) (by decide) (by decide) (by decide)),vget_ne (n _ _ (by decide) (by decide) (by decide) (by decide)),vget_ne (n _ _ (by decide) (by decide) (by decide) (by decide)),vget_ne (n _ _ (by decide) (by decide) (by decide) (by decide))])
theorem res_inv (a b:Mot) (c:Con) (r:Int):(resolveS a b c r).1.inv=a.inv /\ (resolveS a b c r).2.inv=b.inv:=by
  unfold resolveS
  split
  · exact ⟨rfl,rfl⟩
  · constructor
    · show (rsA a b c r).inv=a.inv
      unfold rsA
      split <;> rfl
    · show (rsB a b c r).inv=b.inv
      unfold rsB
      split <;> rfl
def clsE (S:Setup) (i j:Nat) (a b:Mot):Con × Bool:=collideS (S.body i).sh ⟨a.px,a.py⟩ (S.body j).sh ⟨b.px,b.py⟩
def rsvE (S:Setup) (i j:Nat) (a b:Mot):Mot × Mot:=resolveS a b (clsE S i j a b).1 S.rest
theorem con_no {S:Setup} {i j:Nat} {W:MemS} (h:(clsE S i j (motM S W i) (motM S W j)).2=false):conG S i j W=W:=by
  have e:colT (stp0 S i j) W=clsE S i j (motM S W i) (motM S W j):=rfl
  unfold conG touchF
  split
  · split
    · rw [e,h,if_neg (by decide)]
    · rfl
  · rfl
theorem get_setMot {S:Setup} (hP:0 <= S.players) {t:Stp} (ht:t.S=S) {M:MemS} {i k:Int} (hi:0 <= i /\ i < S.nb) (hk:0 <= k /\ k < S.nb) (m:Mot) {c:Int} (hc:4 <= c /\ c < 8):(setMotM t i m M).get (bodyAt S k+c)=M.get (bodyAt S k+c):=by
  have e1:=bat (S:=S) hi.1 hi.2
  have e2:=bat (S:=S) hk.1 hk.2
  unfold setMotM
  rw [ht,vget_ne (by omega),vget_ne (by omega),vget_ne (by omega),vget_ne (by omega)]
theorem setMot_len (t:Stp) (k:Int) (m:Mot) (M:MemS):(setMotM t k m M).cs.length=M.cs.length:=by
  unfold setMotM
  simp only [vset_len]
theorem mot_hit {S:Setup} {M:MemS} {i k v:Int} (hi:0 <= i /\ i < S.nb) (hk:0 <= k /\ k < S.nb):motM S (M.set (bodyAt S i+6) v) k=motM S M k:=by
  have e1:=bat (S:=S) hi.1 hi.2
  have e2:=bat (S:=S) hk.1 hk.2
  unfold motM
  rw [vget_ne (by omega),vget_ne (by omega),vget_ne (by omega),vget_ne (by omega)]
theorem WR.con {S:Setup} (hV:SetV S) {W:MemS} {bl:List Mot} {hl:List Int} {xl:List Bx} (h:WR S W bl hl xl) {i j:Nat} (hij:i < j) (hj:j < S.nb) {a b a' b':Mot} (ha:bl.getD i dMot=a) (hb:bl.getD j dMot=b) (hc:(clsE S i j a b).2=true) (hr:rsvE S i j a b=(a',b')) :
    WR S (conG S i j W) ((bl.set i a').set j b') ((hl.set i ((j:Int)+1)).set j ((i:Int)+1)) ((xl.set i (bounds (S.body i).sh ⟨a'.px,a'.py⟩)).set j (bounds (S.body j).sh ⟨b'.px,b'.py⟩)):=by
  have hP:=hV.pl
  have hN:=hV.nb
  have ea:motM S W i=a:=by rw [<- ha,h.b i (by omega)]
  have eb:motM S W j=b:=by rw [<- hb,h.b j hj]
  have iv:=res_inv a b (clsE S i j a b).1 S.rest
  have hr':resolveS a b (clsE S i j a b).1 S.rest=(a',b'):=hr
  rw [hr'] at iv
  simp only at iv
  have ia:a.inv=(S.body i).mot.inv:=by rw [<- ea];rfl
  have ib:b.inv=(S.body j).mot.inv:=by rw [<- eb];rfl
  have hi0:0 <= (i:Int) /\ (i:Int) < S.nb:=by omega
  have hj0:0 <= (j:Int) /\ (j:Int) < S.nb:=by omega
  have eW:conG S i j W=((setMotM (stp0 S i j) j b' (setMotM (stp0 S i j) i a' W)).set (bodyAt S i+6) ((j:Int)+1)).set (bodyAt S j+6) ((i:Int)+1):=by
    have e:colT (stp0 S i j) W=clsE S i j a b:=by rw [<- ea,<- eb];rfl
    have e2:resT (stp0 S i j) W=(a',b'):=by rw [<- hr',<- ea,<- eb];rfl
    unfold conG touchF
    show (if 0 <= (i:Int) /\ (i:Int) < (S.nb:Int) then if 0 <= (j:Int) /\ (j:Int) < (S.nb:Int) then if (colT (stp0 S i j) W).2=true then touchSet (stp0 S i j) W else W else W else W)=_
    rw [if_pos hi0,if_pos hj0,e,hc,if_pos rfl]
    unfold touchSet
    rw [e2]
    show ((setMotM (stp0 S i j) (j:Int) b' (setMotM (stp0 S i j) (i:Int) a' W)).set (bodyAt S i+6) (w64 ((j:Int)+1))).set (bodyAt S j+6) (w64 ((i:Int)+1))=_
    rw [w64_id (by omega),w64_id (by omega)]
  have z:=hP
  have hz:sizeOf S=48+4 * S.players+8 * S.nb:=rfl
  have hlen:=h.len
  have hm:∀ k:Nat,k < S.nb -> motM S (conG S i j W) k=if k=j then b' else if k=i then a' else motM S W k:=λ k hk=>by
    have hk0:0 <= (k:Int) /\ (k:Int) < S.nb:=by omega
    rw [eW,mot_hit hj0 hk0,mot_hit hi0 hk0,mot_setMot (S:=S) (by omega) (t:=stp0 S i j) rfl (by rw [setMot_len];exact hlen) hj0 hk0,mot_setMot (S:=S) (by omega) (t:=stp0 S i j) rfl hlen hi0 hk0]
    by_cases c1:k=j
    · subst c1
      rw [if_pos rfl,if_pos rfl,Int.toNat_natCast,<- ib,<- iv.2]
    · rw [if_neg (by omega),if_neg c1]
      by_cases c2:k=i
      · subst c2
        rw [if_pos rfl,if_pos rfl,Int.toNat_natCast,<- ia,<- iv.1]
      · rw [if_neg (by omega),if_neg c2]
  have lb:=h.lb
  have lh:=h.lh
  have lx:=h.lx
  refine ⟨by rw [(kc_con i j W).len];exact hlen,by simp only [List.length_set];exact lb,by simp only [List.length_set];exact lh,by simp only [List.length_set];exact lx,λ k hk=>?_,λ k hk=>?_,λ k hk=>?_⟩
  · rw [getD_set (by rw [List.length_set];omega),getD_set (by omega),hm k hk,h.b k hk]
  · have hk0:0 <= (k:Int) /\ (k:Int) < S.nb:=by omega
    have e1:=bat (S:=S) hi0.1 hi0.2
    have e2:=bat (S:=S) hj0.1 hj0.2
    have e3:=bat (S:=S) hk0.1 hk0.2
    rw [getD_set (by rw [List.length_set];omega),getD_set (by omega),eW]
    by_cases c1:k=j
    · subst c1
      rw [if_pos rfl,vget_eq (by rw [vset_len,setMot_len,setMot_len];omega)]
    · rw [if_neg c1,vget_ne (by omega)]
      by_cases c2:k=i
      · subst c2
        rw [if_pos rfl,vget_eq (by rw [setMot_len,setMot_len];omega)]
      · rw [if_neg c2,vget_ne (by omega),get_setMot (S:=S) (by omega) (t:=stp0 S i j) rfl hj0 hk0 _ (by omega),get_setMot (S:=S) (by omega) (t:=stp0 S i j) rfl hi0 hk0 _ (by omega)]
        exact h.h k hk
  · rw [getD_set (by rw [List.length_set];omega),getD_set (by omega),hm k hk]
    by_cases c1:k=j
    · subst c1;rw [if_pos rfl,if_pos rfl]
    · rw [if_neg c1,if_neg c1]
      by_cases c2:k=i
      · subst c2;rw [if_pos rfl,if_pos rfl]
      · rw [if_neg c2,if_neg c2];exact h.x k hk
theorem place_at {S:Setup} {i c pos lo up:Int} {A:MemS} (hr:0 <= bodyAt S i+c /\ bodyAt S i+(c+2) < A.cs.length) (hc:0 <= c):(placeM (stp0 S i 0) (bodyAt S i+c) (bodyAt S i+(c+2)) pos lo up A).cs.length=A.cs.length /\ ∀ y,(placeM (stp0 S i 0) (bodyAt S i+c) (bodyAt S i+(c+2)) pos lo up A).get y=if y=bodyAt S i+c then clampI pos lo up else if y=bodyAt S i+(c+2) then bncV pos (A.get y) lo up S.rest else A.get y:=by
  unfold placeM bncV
  by_cases h:clampI pos lo up=pos
  · rw [if_pos h]
    refine ⟨vset_len _ _ _,λ y=>?_⟩
    by_cases c1:y=bodyAt S i+c
    · rw [if_pos c1,c1,vget_eq (by omega)]
    · rw [if_neg c1,vget_ne c1]
      split <;> first | rfl | (rw [if_pos h])
  · rw [if_neg h]
    refine ⟨by simp only [vset_len],λ y=>?_⟩
    by_cases c1:y=bodyAt S i+c
    · rw [if_pos c1,c1,vget_ne (by omega),vget_eq (by omega)]
    · rw [if_neg c1]
      by_cases c2:y=bodyAt S i+(c+2)
      · rw [if_pos c2,if_neg h,c2,vget_eq (by rw [vset_len];omega),vget_ne (by omega)]
        rfl
      · rw [if_neg c2,vget_ne c2,vget_ne c1]
theorem WR.mv {S:Setup} (hV:SetV S) {W:MemS} {bl:List Mot} {hl:List Int} {xl:List Bx} (h:WR S W bl hl xl) {i:Nat} (hi:i < S.nb) {b:Mot} (hb:bl.getD i dMot=b) (c5:Int) {f:Int} (hf:(if w64 (c5+128) < 1024 then w64 (c5+128) else 1024)=f) :
    WR S (trvG S i c5 W) (bl.set i (mvMot S b f)) hl (xl.set i (bounds (S.body i).sh ⟨(mvMot S b f).px,(mvMot S b f).py⟩)):=by
  have hP:=hV.pl
  have hN:=hV.nb
  have hz:sizeOf S=48+4 * S.players+8 * S.nb:=rfl
  have hlen:=h.len
  have eb:motM S W i=b:=by rw [<- hb,h.b i hi]
  have hi0:0 <= (i:Int) /\ (i:Int) < S.nb:=by omega
  have e1:=bat (S:=S) hi0.1 hi0.2
  have eP:trvP S i c5 W=vadd ⟨b.px,b.py⟩ (vmuldiv ⟨b.vx,b.vy⟩ f 1024):=by unfold trvP;rw [eb,hf]
  have p1:=place_at (S:=S) (i:=i) (c:=0) (pos:=(trvP S i c5 W).x) (lo:=S.box.x0) (up:=S.box.x1) (A:=W) (by omega) (by decide)
  generalize hA:placeM (stp0 S i 0) (bodyAt S i+0) (bodyAt S i+(0+2)) (trvP S i c5 W).x S.box.x0 S.box.x1 W=A at p1
  have p2:=place_at (S:=S) (i:=i) (c:=1) (pos:=(trvP S i c5 W).y) (lo:=S.box.y0) (up:=S.box.y1) (A:=A) (by omega) (by decide)
  have eT:trvG S i c5 W=placeM (stp0 S i 0) (bodyAt S i+1) (bodyAt S i+(1+2)) (trvP S i c5 W).y S.box.y0 S.box.y1 A:=by rw [<- hA];rfl
  rw [<- eT] at p2
  rw [eP] at p1 p2
  obtain ⟨l1,g1⟩:=p1
  obtain ⟨l2,g2⟩:=p2
  have m1:W.get (bodyAt S i+2)=b.vx:=by rw [<- eb];rfl
  have m2:W.get (bodyAt S i+3)=b.vy:=by rw [<- eb];rfl
  have ib:(S.body i).mot.inv=b.inv:=by rw [<- eb];rfl
  have hm:∀ k:Nat,k < S.nb -> motM S (trvG S i c5 W) k=if k=i then mvMot S b f else motM S W k:=λ k hk=>by
    have hk0:0 <= (k:Int) /\ (k:Int) < S.nb:=by omega
    have e3:=bat (S:=S) hk0.1 hk0.2
    by_cases c1:k=i
    · subst c1
      rw [if_pos rfl]
      unfold motM mvMot
      rw [Int.toNat_natCast,ib]
      congr 1
      · rw [g2,if_neg (by omega),if_neg (by omega),g1,if_pos rfl]
      · rw [g2,if_pos rfl]
      · rw [g2,if_neg (by omega),if_neg (by omega),g1,if_neg (by omega),if_pos (by omega),m1]
      · rw [g2,if_neg (by omega),if_pos (by omega),g1,if_neg (by omega),if_neg (by omega),m2]
    · rw [if_neg c1]
      unfold motM
      congr 1 <;> rw [g2,if_neg (by omega),if_neg (by omega),g1,if_neg (by omega),if_neg (by omega)]
  have lb:=h.lb
  have lx:=h.lx
  refine ⟨by rw [l2,l1];exact hlen,by rw [List.length_set];exact lb,h.lh,by rw [List.length_set];exact lx,λ k hk=>?_,λ k hk=>?_,λ k hk=>?_⟩
  · rw [getD_set (by omega),hm k hk,h.b k hk]
  · have hk0:0 <= (k:Int) /\ (k:Int) < S.nb:=by omega
    have e3:=bat (S:=S) hk0.1 hk0.2
    rw [h.h k hk,g2,if_neg (by omega),if_neg (by omega),g1,if_neg (by omega),if_neg (by omega)]
  · rw [getD_set (by omega),hm k hk]
    by_cases c1:k=i
    · subst c1;rw [if_pos rfl,if_pos rfl]
    · rw [if_neg c1,if_neg c1];exact h.x k hk
def csM (M:MemS) (c v:Int):MemS:=if M.get c=v then M else M.set c v
theorem cs_get {M:MemS} {c v:Int} (hc:0 <= c /\ c < M.cs.length) (y:Int):(csM M c v).get y=if y=c then v else M.get y:=by
  unfold csM
  split
  · next h =>
    split
    · next e=>rw [e,h]
    · rfl
  · split
    · next e=>rw [e,vget_eq hc]
    · next e=>rw [vget_ne e]
theorem cs_len (M:MemS) (c v:Int):(csM M c v).cs.length=M.cs.length:=by
  unfold csM
  split
  · rfl
  · exact vset_len _ _ _
def stBd (S:Setup) (k:Int) (b:Mot) (h:Int) (M:MemS):MemS:=csM (csM (csM (csM (csM M (bodyAt S k+0) b.px) (bodyAt S k+1) b.py) (bodyAt S k+2) b.vx) (bodyAt S k+3) b.vy) (bodyAt S k+6) h
theorem stBd_len (S:Setup) (k:Int) (b:Mot) (h:Int) (M:MemS):(stBd S k b h M).cs.length=M.cs.length:=by
  unfold stBd
  simp only [cs_len]
theorem stBd_get {S:Setup} (hP:0 <= S.players) {k:Int} (hk:0 <= k /\ k < S.nb) {M:MemS} (hl:(M.cs.length:Int)=sizeOf S) (b:Mot) (h y:Int):(stBd S k b h M).get y=if y=bodyAt S k+6 then h else if y=bodyAt S k+3 then b.vy else if y=bodyAt S k+2 then b.vx else if y=bodyAt S k+1 then b.py else if y=bodyAt S k+0 then b.px else M.get y:=by
  have e:=bat (S:=S) hk.1 hk.2
  have hz:sizeOf S=48+4 * S.players+8 * S.nb:=rfl
  unfold stBd
  rw [cs_get (by simp only [cs_len];omega),cs_get (by simp only [cs_len];omega),cs_get (by simp only [cs_len];omega),cs_get (by simp only [cs_len];omega),cs_get (by omega)]
structure Sto (S:Setup) (M W N:MemS) (k:Nat):Prop where
  len:(N.cs.length:Int)=sizeOf S
  inn:∀ q c:Int,0 <= q -> q < k -> 0 <= c -> c < 8 -> N.get (bodyAt S q+c)=W.get (bodyAt S q+c)
  out:∀ y,(∀ q c:Int,0 <= q -> q < k -> 0 <= c -> c < 8 -> y ≠ bodyAt S q+c) -> N.get y=M.get y
theorem Sto.start {S:Setup} {M W:MemS} (hl:(M.cs.length:Int)=sizeOf S):Sto S M W M 0:=⟨hl,λ q c h0 h1=>by omega,λ y _=>rfl⟩
theorem Sto.step {S:Setup} (hV:SetV S) {M W N:MemS} {k:Nat} (h:Sto S M W N k) (hk:k < S.nb) (hW:KpB S M W) {bl:List Mot} {hl:List Int} {xl:List Bx} (hr:WR S W bl hl xl):Sto S M W (stBd S k (bl.getD k dMot) (hl.getD k 0) N) (k+1):=by
  have hP:=hV.pl
  have hk0:0 <= (k:Int) /\ (k:Int) < S.nb:=by omega
  have e:=bat (S:=S) hk0.1 hk0.2
  have g:=λ y=>stBd_get (S:=S) (by omega) hk0 h.len (bl.getD k dMot) (hl.getD k 0) y
  rw [hr.b k hk,hr.h k hk] at g ⊢
  refine ⟨by rw [stBd_len];exact h.len,λ q c q0 q1 c0 c8=>?_,λ y hy=>?_⟩
  · have e3:=bat (S:=S) q0 (by omega)
    by_cases c3:q=k
    · subst c3
      rw [g]
      by_cases y6:c=6
      · subst y6;rw [if_pos rfl]
      rw [if_neg (by omega)]
      by_cases y3:c=3
      · subst y3;rw [if_pos rfl];rfl
      rw [if_neg (by omega)]
      by_cases y2:c=2
      · subst y2;rw [if_pos rfl];rfl
      rw [if_neg (by omega)]
      by_cases y1:c=1
      · subst y1;rw [if_pos rfl];rfl
      rw [if_neg (by omega)]
      by_cases y0:c=0
      · subst y0;rw [if_pos rfl];rfl
      rw [if_neg (by omega),h.out _ (λ q d h0 h1 _ _=>by have e4:=bat (S:=S) h0 (by omega);omega)]
      refine (hW.get _ ?_).symm
      rintro ⟨q,d,h0,h1,hd,e2⟩
      have e4:=bat (S:=S) h0 h1
      omega
    · rw [g,if_neg (by omega),if_neg (by omega),if_neg (by omega),if_neg (by omega),if_neg (by omega)]
      exact h.inn q c q0 (by omega) c0 c8
  · have hn:∀ d:Int,0 <= d -> d < 8 -> y ≠ bodyAt S k+d:=λ d d0 d8=>hy k d (by omega) (by omega) d0 d8
    rw [g,if_neg (hn 6 (by decide) (by decide)),if_neg (hn 3 (by decide) (by decide)),if_neg (hn 2 (by decide) (by decide)),if_neg (hn 1 (by decide) (by decide)),if_neg (hn 0 (by decide) (by decide))]
    exact h.out y λ q d h0 h1 h2 h3=>hy q d h0 (by omega) h2 h3
theorem Sto.fin {S:Setup} (hV:SetV S) {M W N:MemS} (hM:(M.cs.length:Int)=sizeOf S) (h:Sto S M W N S.nb) (hW:KpB S M W) (e:W=colG S M):ColR S M (csM (csM (csM (csM N 1 6) 2 0) 3 0) 5 0):=by
  have hP:=hV.pl
  have hz:sizeOf S=48+4 * S.players+8 * S.nb:=rfl
  have hl:=h.len
  have g:∀ y,(csM (csM (csM (csM N 1 6) 2 0) 3 0) 5 0).get y=if y=5 then 0 else if y=3 then 0 else if y=2 then 0 else if y=1 then 6 else N.get y:=λ y=>by
    rw [cs_get (by simp only [cs_len];omega),cs_get (by simp only [cs_len];omega),cs_get (by simp only [cs_len];omega),cs_get (by omega)]
  refine ⟨⟨by simp only [cs_len];have hk:=(kc_col S M).len;omega,λ y hy=>?_⟩,by rw [g];rfl,by rw [g];rfl,by rw [g];rfl,by rw [g];rfl⟩
  · unfold OffC at hy
    rw [g,if_neg (by omega),if_neg (by omega),if_neg (by omega),if_neg (by omega),<- e]
    by_cases c:∃ q c:Int,0 <= q /\ q < (S.nb:Int) /\ 0 <= c /\ c < 8 /\ y=bodyAt S q+c
    · obtain ⟨q,d,q0,q1,d0,d8,ey⟩:=c
      rw [ey]
      exact h.inn q d q0 q1 d0 d8
    · rw [h.out y λ q d h0 h1 h2 h3 e2=>c ⟨q,d,h0,h1,h2,h3,e2⟩]
      refine (hW.get y ?_).symm
      rintro ⟨q,d,q0,q1,hd,e2⟩
      exact c ⟨q,d,q0,q1,by omega,by omega,e2⟩
open Go.Shelf
section
variable {P:Program} {N:Nat} {D:List Deferred} {F:HL} {w0:World} {L:FL} {Q:Exit -> Act -> World -> Prop}
end
section
variable {P:Program} {N:Nat} {D:List Deferred} {F:HL} {w0:World} {R:HL} {s:Cfg} {Q:Exit -> Act -> World -> Prop}
end
section
variable {α:Type} {e:Enc α} {P:Program} {T:TypeId} {inf:TypeInfo} {z:Value} {l:List α} {A:Option Addr} {cap:Nat} {Hl F:HL}
end
section
variable {r:Option Nat} {P:Program} {N:Nat} {D:List Deferred} {F:HL} {w0:World} {R:HL} {s:Cfg} {Q:Exit -> Act -> World -> Prop} {hards:List Nat} {Rd:HL}
variable {α:Type} {e:Enc α} {T:TypeId} {inf:TypeInfo} {z:Value}
end
section
variable {r:Option Nat} {P:Program} {N:Nat} {D:List Deferred} {F:HL} {w0:World} {R:HL} {s:Cfg} {Q:Exit -> Act -> World -> Prop}
end
section
variable {r:Option Nat} {P:Program} {N:Nat} {D:List Deferred} {F:HL} {w0:World} {R:HL} {s:Cfg} {Q:Exit -> Act -> World -> Prop}
end
section
variable {α:Type} {e:Enc α} {T:TypeId} {F:HL} {A:Option Addr} {n cap:Nat} {xs:List α} {Hl:HL}
end
section
variable {α:Type} {e:Enc α} {T:TypeId} {F:HL} {A:Option Addr} {n cap:Nat} {xs:List α}
end
theorem rowsOf_eq {w:Nat} {g g':Nat -> Nat -> Value}:∀ {n:Nat},(∀ i k,i < n -> k < w -> g i k=g' i k) -> rowsOf w g n=rowsOf w g' n
  | 0,_=>rfl
  | n+1,h=>by
    rw [rowsOf,rowsOf,rowsOf_eq λ i k hi hk=>h i k (by omega) hk]
    congr 1
    exact List.map_congr_left λ k hk=>h n k (by omega) (List.mem_range.1 hk)
theorem rows_den {w n:Nat} {g g':Nat -> Nat -> Value} {ty:TypeId} {fz:Nat × Nat} (h:∀ i k,i < n -> k < w -> g i k=g' i k):(Blk.rows w n g ty fz).den=(Blk.rows w n g' ty fz).den:=by
  simp only [Blk.den,rowsOf_eq h]
section
variable {r:Option Nat} {P:Program} {N:Nat} {D:List Deferred} {F:HL} {w0:World} {R:HL} {s:Cfg} {Q:Exit -> Act -> World -> Prop}
theorem RN.de (i:Nat) (a b:Blk) (e:a.den=b.den) (hk:RN r P N D F w0 R (dnC i b s) Q) (h:dnB i s=some a.den:=by kernel_rfl):RN r P N D F w0 R s Q:=RN.dn i b hk (h.trans (congrArg some e))
end
def motE:Enc Mot:=⟨5,λ p k=>match k with | 0=>vI p.px | 1=>vI p.py | 2=>vI p.vx | 3=>vI p.vy | _=>vI p.inv,dMot⟩
theorem hull_any (a b:Bx) (F:HL):Sp Tryz.prog 66 #[.agg #[vI a.x0,vI a.y0,vI a.x1,vI a.y1],.agg #[vI b.x0,vI b.y0,vI b.x1,vI b.y1]] [] F (λ u H'=>u=.agg #[vI ((hullB a b).x0),vI ((hullB a b).y0),vI ((hullB a b).x1),vI ((hullB a b).y1)] /\ H'=[]):=by
 refine Sp.run Tryz.func66 rfl mn (A:=[]) (Ts:=[]) rfl λ w0=>?_
 refine RN.go 33 [.own 2,.own 1,.own 2,.own 1,.own 2,.own 1,.own 2,.own 1,.own 0,.own 0,.own 0,.own 0] λ n1=>?_
 exact RN.ret [.own 0,.own 0,.own 0,.own 0] [] [] ⟨rfl,rfl⟩
theorem bounce_any (S:Setup) (wp bb hb xb n:Nat) (sp sc ss x v lo up:Int) (F:HL) (hw:(wp,.lit (Setup.l S++[vS bb 0 n n,vS hb 0 n n,vS xb 0 n n,vI sp,vI sc,vI ss]) 92 (0,0)) ∈ F):Sp Tryz.prog 65 #[vP wp 0,vI x,vI v,vI lo,vI up] [] F (λ u H'=>u=.tuple #[vI (clampI x lo up),vI (bncV x v lo up S.rest)] /\ H'=[]):=by
 refine Sp.run Tryz.func65 rfl (mc hw mn) (A:=[]) (Ts:=[]) rfl λ w0=>?_
 refine RN.go 11 [] λ _=>RN.cp (clamp_any x lo up  _)<|RN.go 11 [] λ _=>RN.en (clampI x lo up=x) 19 (λ h1=>?_) λ h1=>?_
 ·refine RN.go 11 [] λ _=>RN.ret [] [] [] (v:=.tuple #[vI (clampI x lo up),vI v]) (H':=[]) ?_
  refine ⟨?_,rfl⟩
  unfold bncV;rw [if_pos h1]
 ·refine RN.go 8 [.ro 0] λ _=>RN.cp (mul_any v S.rest  _)<|RN.go 12 [] λ _=>RN.ret [] [] [] (v:=.tuple #[vI (clampI x lo up),vI (IntKind.i64.wrap (0 - (mulI v S.rest)))]) (H':=[]) ?_
  refine ⟨?_,rfl⟩
  unfold bncV;rw [if_neg h1]
theorem wld_same {α:Type} {l:List α} {i:Nat} {x d:α} (h:i < l.length):(l.set i x).getD i d=x:=by simp [h]
theorem wld_not {α:Type} {l:List α} {i k:Nat} {x d:α} (h:¬ i=k):(l.set i x).getD k d=l.getD k d:=by simp [List.getElem?_set,h]
theorem motset {l:List Mot} {n i:Nat} (hl:l.length=n) (h:i < n) (p:Mot):∀ i' k',i' < n -> k' < 5 -> updG (updG (updG (updG (updG (rowE motE l) i 0 (vI p.px)) i 1 (vI p.py)) i 2 (vI p.vx)) i 3 (vI p.vy)) i 4 (vI p.inv) i' k'=rowE motE (l.set i p) i' k':=λ i' k' h1 h2=>by
 unfold updG rowE
 by_cases h1:i'=i
 ·subst h1
  rw [wld_same (by omega)]
  obtain rfl | rfl | rfl | rfl | rfl:k'=0 \/ k'=1 \/ k'=2 \/ k'=3 \/ k'=4:=by omega
  ·rw [if_neg (by simp),if_neg (by simp),if_neg (by simp),if_neg (by simp),if_pos ⟨rfl,rfl⟩];rfl
  ·rw [if_neg (by simp),if_neg (by simp),if_neg (by simp),if_pos ⟨rfl,rfl⟩];rfl
  ·rw [if_neg (by simp),if_neg (by simp),if_pos ⟨rfl,rfl⟩];rfl
  ·rw [if_neg (by simp),if_pos ⟨rfl,rfl⟩];rfl
  ·rw [if_pos ⟨rfl,rfl⟩];rfl
 ·rw [wld_not (λ e=>h1 e.symm),if_neg (λ e=>h1 e.1),if_neg (λ e=>h1 e.1),if_neg (λ e=>h1 e.1),if_neg (λ e=>h1 e.1),if_neg (λ e=>h1 e.1)]
theorem bxset {l:List Bx} {n i:Nat} (hl:l.length=n) (h:i < n) (p:Bx):∀ i' k',i' < n -> k' < 4 -> updG (updG (updG (updG (rowE bxE l) i 0 (vI p.x0)) i 1 (vI p.y0)) i 2 (vI p.x1)) i 3 (vI p.y1) i' k'=rowE bxE (l.set i p) i' k':=λ i' k' h1 h2=>by
 unfold updG rowE
 by_cases h1:i'=i
 ·subst h1
  rw [wld_same (by omega)]
  obtain rfl | rfl | rfl | rfl:k'=0 \/ k'=1 \/ k'=2 \/ k'=3:=by omega
  ·rw [if_neg (by simp),if_neg (by simp),if_neg (by simp),if_pos ⟨rfl,rfl⟩];rfl
  ·rw [if_neg (by simp),if_neg (by simp),if_pos ⟨rfl,rfl⟩];rfl
  ·rw [if_neg (by simp),if_pos ⟨rfl,rfl⟩];rfl
  ·rw [if_pos ⟨rfl,rfl⟩];rfl
 ·rw [wld_not (λ e=>h1 e.symm),if_neg (λ e=>h1 e.1),if_neg (λ e=>h1 e.1),if_neg (λ e=>h1 e.1),if_neg (λ e=>h1 e.1)]
theorem update_run (S:Setup) (wp bb hb xb n i:Nat) (sp sc ss:Int) (bl:List Mot) (xl:List Bx) (m:Mot) (F:HL) (hw:(wp,.lit (Setup.l S++[vS bb 0 n n,vS hb 0 n n,vS xb 0 n n,vI sp,vI sc,vI ss]) 92 (0,0)) ∈ F) (hS:SetIn F S) (hn:n=S.nb) (hi:i < n) (hbl:bl.length=n) (hxl:xl.length=n):Sp Tryz.prog 38 #[vP wp 0,vI (i:Int),.agg #[vI m.px,vI m.py,vI m.vx,vI m.vy,vI m.inv]] [(bb,.rows 5 n (rowE motE bl) 37 (0,0)),(xb,.rows 4 n (rowE bxE xl) 25 (0,0))] F (λ _ H'=>H'=[(bb,.rows 5 n (rowE motE (bl.set i m)) 37 (0,0)),(xb,.rows 4 n (rowE bxE (xl.set i (bounds (S.body i).sh ⟨m.px,m.py⟩))) 25 (0,0))]):=by
 have hroom:=hS.room
 have hnbS:=hS.nb
 refine Sp.run Tryz.func38 rfl (mc hw (mc hS.blk mn)) (A:=[(bb,.rows 5 n (rowE motE bl) 37 (0,0)),(xb,.rows 4 n (rowE bxE xl) 25 (0,0))]) (Ts:=[]) rfl λ w0=>?_
 refine RN.go 6 [] λ n1=>RN.draw [7] []<|RD.goP [] [0,4,5,1,2,3,6] (ow 0 5++[.ro 0,.ix i]) [(i:Int)=((i:Nat):Int) /\ i < n]<|RD.one 7 (RDO.evP [] [.row 1 i 0,.row 1 i 1,.row 1 i 2,.row 1 i 3,.row 1 i 4] [((0+i * 5)+4)=i * 5+4 /\ i < n,((0+i * 5)+3)=i * 5+3 /\ i < n,((0+i * 5)+2)=i * 5+2 /\ i < n,((0+i * 5)+1)=i * 5+1 /\ i < n,(0+i * 5)=i * 5+0 /\ i < n] λ _=>?_)
 refine RD.fin<|RN.go 1 [] λ _=>RN.de 1 (.rows 5 n (updG (updG (updG (updG (updG (rowE motE bl) i 0 (vI m.px)) i 1 (vI m.py)) i 2 (vI m.vx)) i 3 (vI m.vy)) i 4 (vI m.inv)) 37 (0,0)) (.rows 5 n (rowE motE (bl.set i m)) 37 (0,0)) (rows_den (motset hbl hi m))<|RN.draw [18] []<|RD.goP [] [0,4,5,10,14,1,6,15,2,7,3,8,9,11,12,13] [.own 0,.own 0,.ro 0,.ro 0,.ix i,.rorow 1 (S.bo+i) 0,.rorow 1 (S.bo+i) 1] [((S.bo * 9+i * 9)+1)=(S.bo+i) * 9+1 /\ (S.bo+i) < S.bR,(S.bo * 9+i * 9)=(S.bo+i) * 9+0 /\ (S.bo+i) < S.bR,(i:Int)=((i:Nat):Int) /\ i < S.nb]<|RD.cp [] 16 (λ X_=>(bounds_any (S.bods.getD (S.bo+i) dB).sh (⟨m.px,m.py⟩:V2) _ ((hS.shp i (by omega)).up.up)))<|RD.goP [] [17] [.ix i] [(i:Int)=((i:Nat):Int) /\ i < n]<|RD.one 18 (RDO.evP [] [.row 2 i 0,.row 2 i 1,.row 2 i 2,.row 2 i 3] [((0+i * 4)+3)=i * 4+3 /\ i < n,((0+i * 4)+2)=i * 4+2 /\ i < n,((0+i * 4)+1)=i * 4+1 /\ i < n,(0+i * 4)=i * 4+0 /\ i < n] λ _=>?_)
 refine RD.fin<|RN.de 2 (.rows 4 n (updG (updG (updG (updG (rowE bxE xl) i 0 (vI ((bounds (S.bods.getD (S.bo+i) dB).sh (⟨m.px,m.py⟩:V2)).x0))) i 1 (vI ((bounds (S.bods.getD (S.bo+i) dB).sh (⟨m.px,m.py⟩:V2)).y0))) i 2 (vI ((bounds (S.bods.getD (S.bo+i) dB).sh (⟨m.px,m.py⟩:V2)).x1))) i 3 (vI ((bounds (S.bods.getD (S.bo+i) dB).sh (⟨m.px,m.py⟩:V2)).y1))) 25 (0,0)) (.rows 4 n (rowE bxE (xl.set i (bounds (S.body i).sh ⟨m.px,m.py⟩))) 25 (0,0)) (rows_den (bxset hxl hi (bounds (S.body i).sh ⟨m.px,m.py⟩)))<|RN.ret [] [1,2] [] (v:=.tuple #[]) (H':=[(bb,.rows 5 n (rowE motE (bl.set i m)) 37 (0,0)),(xb,.rows 4 n (rowE bxE (xl.set i (bounds (S.body i).sh ⟨m.px,m.py⟩))) 25 (0,0))]) ?_
 rfl
theorem update_ap (S:Setup) (wp bb hb xb n i:Nat) (sp sc ss:Int) (bl:List Mot) (xl:List Bx) (m:Mot) (F:HL) (hw:(wp,.lit (Setup.l S++[vS bb 0 n n,vS hb 0 n n,vS xb 0 n n,vI sp,vI sc,vI ss]) 92 (0,0)) ∈ F) (hS:SetIn F S) (hn:n=S.nb) (hi:i < n) (hbl:bl.length=n) (hxl:xl.length=n):Sp Tryz.prog 38 #[vP wp 0,vI (i:Int),.agg #[vI m.px,vI m.py,vI m.vx,vI m.vy,vI m.inv]] (ap [(bb,.rows 5 n (rowE motE bl) 37 (0,0)),(xb,.rows 4 n (rowE bxE xl) 25 (0,0))] []) F (λ u H'=>∃ x:Unit,H'=ap [(bb,.rows 5 n (rowE motE (bl.set i m)) 37 (0,0)),(xb,.rows 4 n (rowE bxE (xl.set i (bounds (S.body i).sh ⟨m.px,m.py⟩))) 25 (0,0))] [] /\ True) :=
 (update_run S wp bb hb xb n i sp sc ss bl xl m F hw hS hn hi hbl hxl).mono λ u H' h_=>⟨(),by rw [h_];rfl,trivial⟩
end Go.Proofs.YthoijjeddhfcnaaGreat
