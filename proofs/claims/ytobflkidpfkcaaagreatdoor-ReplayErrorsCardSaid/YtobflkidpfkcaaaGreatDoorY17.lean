import Derived.Test.YtobflkidpfkcaaaGreatDoorY16
set_option maxHeartbeats 4000000
set_option maxRecDepth 100000
set_option linter.unusedSimpArgs false
set_option linter.unusedVariables false
namespace Go.Proofs.YtobflkidpfkcaaaGreatDoor
open Go.RowKit
section tr
variable {α:Type} {d x:α}
theorem wq:fJ d [] .lf=d:=rfl
theorem wt {v:α} {l r:Tr α}:fJ d [] (.nd v l r)=v:=rfl
theorem nz {b:Bool} {p:List Bool}:fJ d (b :: p) .lf=d:=rfl
theorem eY {b:Bool} {p:List Bool} {v:α} {l r:Tr α}:fJ d (b :: p) (.nd v l r)=fJ d p (match b with | true=>r | false=>l):=by cases b <;> rfl
theorem pL (p:List Bool):fJ d p .lf=d:=by cases p <;> rfl
theorem wu:dK d x [] .lf=.nd x .lf .lf:=rfl
theorem wv {v:α} {l r:Tr α}:dK d x [] (.nd v l r)=.nd x l r:=rfl
theorem j4 {b:Bool} {p:List Bool}:dK d x (b :: p) .lf=(match b with | true=>.nd d .lf (dK d x p .lf) | false=>.nd d (dK d x p .lf) .lf):=by cases b <;> rfl
theorem j5 {b:Bool} {p:List Bool} {v:α} {l r:Tr α}:dK d x (b :: p) (.nd v l r)=(match b with | true=>.nd v l (dK d x p r) | false=>.nd v (dK d x p l) r):=by cases b <;> rfl
theorem Fu (p:List Bool):∀ t:Tr α,fJ d p (dK d x p t)=x:=by
 induction p with
 | nil=>intro t;cases t <;> rfl
 | cons b p ih =>
  intro t
  cases t with
  | lf=>rw [j4];cases b <;> simp only [eY] <;> exact ih _
  | nd v l r=>rw [j5];cases b <;> simp only [eY] <;> exact ih _
theorem wx:∀ (p q:List Bool) (t:Tr α),p ≠ q -> fJ d q (dK d x p t)=fJ d q t:=by
 intro p
 induction p with
 | nil =>
  intro q t h
  cases q with
  | nil=>exact absurd rfl h
  | cons c q=>cases t <;> cases c <;> simp [wu,wv,eY,nz,pL]
 | cons b p ih =>
  intro q t h
  cases q with
  | nil=>cases t <;> cases b <;> simp [j4,j5,wt,wq]
  | cons c q =>
   cases t with
   | lf =>
    rw [j4,nz]
    cases b <;> cases c <;> simp only [eY,pL] <;> (rw [ih _ _ (λ e=>h (by rw [e]))];exact pL _)
   | nd v l r =>
    rw [j5,eY]
    cases b <;> cases c <;> simp only [eY] <;> exact ih _ _ (λ e=>h (by rw [e]))
theorem Cy (k i:Nat):Fa (k+1) (i+1)=(Nat.beq (i % 2) 1 :: Fa k (i / 2)):=rfl
def OI:List Bool -> Nat
 | []=>0
 | b :: p=>2 * OI p+(match b with | true=>1 | false=>0)+1
theorem Ak:∀ k i,i <= k -> OI (Fa k i)=i:=by
 intro k
 induction k with
 | zero =>
  intro i h;obtain rfl:i=0:=by omega
  rfl
 | succ k ih =>
  intro i h
  cases i with
  | zero=>rfl
  | succ i =>
   rw [Cy]
   show 2 * OI (Fa k (i / 2))+(match Nat.beq (i % 2) 1 with | true=>1 | false=>0)+1=i+1
   rw [ih _ (by omega)]
   rcases Nat.mod_two_eq_zero_or_one i with e | e <;> rw [e] <;> simp <;> omega
theorem II {i j:Nat} (h:pth i=pth j):i=j:=by
 have h1:=Ak i i (Nat.le_refl _)
 have h2:=Ak j j (Nat.le_refl _)
 unfold pth at h
 rw [h] at h1
 exact h1.symm.trans h2
theorem IJ (t:Tr α) (i:Nat):Tr.get d (Tr.set d x t i) i=x:=Fu _ _
theorem qI (t:Tr α) {i j:Nat} (h:i ≠ j):Tr.get d (Tr.set d x t i) j=Tr.get d t j:=wx _ _ _ λ e=>h (II e)
theorem yG (i:Nat):Tr.get d (.lf:Tr α) i=d:=pL _
theorem iI (t:Tr α) (i j:Nat):Tr.get d (Tr.set d x t i) j=if i=j then x else Tr.get d t j:=by
 split
 ·rename_i e;subst e;exact IJ _ _
 ·rename_i e;exact qI _ e
theorem Fv (y:α) (l:List α) (i:Nat) (t:Tr α):dD d (y :: l) i t=dD d l (i+1) (Tr.set d y t i):=by
 rw [dD]
 split <;> rename_i h <;> rw [h]
theorem pM:∀ (l:List α) (i:Nat) (t:Tr α) (j:Nat),Tr.get d (dD d l i t) j=if i <= j then (if h:j - i < l.length then l[j - i] else Tr.get d t j) else Tr.get d t j
 | [],i,t,j=>by simp [dD]
 | y :: l,i,t,j=>by
  rw [Fv,pM l,iI]
  by_cases h1:i=j
  ·subst h1
   simp
   intro h;omega
  ·by_cases h2:i <= j
   ·have h3:i+1 <= j:=by omega
    have h4:j - i=(j - (i+1))+1:=by omega
    simp only [h1,h2,h3,if_true,if_false,h4,List.length_cons,Nat.add_lt_add_iff_right,List.getElem_cons_succ]
   ·have h3:¬ i+1 <= j:=by omega
    simp [h1,h2,h3]
end tr
abbrev Nu:=Nat -> Option (Nat × Nat)
def Nu.Le (ν ν':Nu):Prop:=∀ h x,ν h=some x -> ν' h=some x
theorem Nu.Le.refl (ν:Nu):ν.Le ν:=λ _ _ h=>h
theorem Nu.Le.trans {a b c:Nu} (h:a.Le b) (h':b.Le c):a.Le c:=λ _ _ e=>h' _ _ (h _ _ e)
def Nu.upd (ν:Nu) (h r K:Nat):Nu:=λ k=>if k=h then some (r,K) else ν k
theorem cm {ν:Nu} {h r K:Nat}:ν.upd h r K h=some (r,K):=if_pos rfl
theorem ez {ν:Nu} {h r K k:Nat} (e:k ≠ h):ν.upd h r K k=ν k:=if_neg e
theorem jJ {ν:Nu} {h r K:Nat} (e:ν h=none):ν.Le (ν.upd h r K):=λ k x hx=>by
 rw [ez];exact hx
 intro e';subst e';rw [e] at hx;cases hx
def cz:Value -> Bool
 | .bool _=>true
 | .int _ _=>true
 | .float _ _=>true
 | .complex _ _ _=>true
 | .string _=>true
 | .pointer none=>true
 | .slice none _ _=>true
 | .map none=>true
 | .nilFunc=>true
 | .nilIface=>true
 | _=>false
inductive FnR (ν:Nu):Fn -> Fn -> Prop
 | func (f:FuncId):FnR ν (.func f) (.func f)
 | yield {l b K:Nat}:ν l=some (b,K) -> FnR ν (.yield l) (.yield b)
def OJ (K c c':Nat):Prop:=(c < lm -> c'=c) /\ (lm <= c -> c'+(c - lm)=K)
inductive VRi (ν:Nu):Value -> Value -> Prop
 | atom (v:Value):cz v=true -> VRi ν v v
 | ptr {h b K:Nat} (o:Nat):ν h=some (b,K) -> VRi ν (.pointer (some ⟨h,o,none⟩)) (.pointer (some ⟨b,o,none⟩))
 | slice {h b K c c':Nat} (o n:Nat):ν h=some (b,K) -> OJ K c c' -> VRi ν (.slice (some ⟨h,o,none⟩) n c) (.slice (some ⟨b,o,none⟩) n c')
 | map {h b K:Nat}:ν h=some (b,K) -> VRi ν (.map (some h)) (.map (some b))
 | func {fn fn':Fn} {f f' c c':Array Value}:FnR ν fn fn' -> f.size=f'.size -> (∀ (i:Nat) (v v':Value),f[i]?=some v -> f'[i]?=some v' -> VRi ν v v') -> c.size=c'.size -> (∀ (i:Nat) (v v':Value),c[i]?=some v -> c'[i]?=some v' -> VRi ν v v') -> VRi ν (.func fn f c) (.func fn' f' c')
 | iface {v v':Value} (t:TypeId):VRi ν v v' -> VRi ν (.iface t v) (.iface t v')
 | agg {c c':Array Value}:c.size=c'.size -> (∀ (i:Nat) (v v':Value),c[i]?=some v -> c'[i]?=some v' -> VRi ν v v') -> VRi ν (.agg c) (.agg c')
 | tuple {c c':Array Value}:c.size=c'.size -> (∀ (i:Nat) (v v':Value),c[i]?=some v -> c'[i]?=some v' -> VRi ν v v') -> VRi ν (.tuple c) (.tuple c')
inductive LR (ν:Nu):List Value -> List Value -> Prop
 | nil:LR ν [] []
 | cons {v v':Value} {l l':List Value}:VRi ν v v' -> LR ν l l' -> LR ν (v :: l) (v' :: l')
section vr
variable {ν ν':Nu}
theorem FnR.mono {f f':Fn} (h:FnR ν f f') (hl:ν.Le ν'):FnR ν' f f':=by
 cases h with
 | func f=>exact .func f
 | yield h=>exact .yield (hl _ _ h)
theorem VRi.mono {v v':Value} (h:VRi ν v v') (hl:ν.Le ν'):VRi ν' v v':=by
 induction h with
 | atom v h=>exact .atom v h
 | ptr o h=>exact .ptr o (hl _ _ h)
 | slice o n h c=>exact .slice o n (hl _ _ h) c
 | map h=>exact .map (hl _ _ h)
 | func hf e1 _ e2 _ ih1 ih2=>exact .func (hf.mono hl) e1 ih1 e2 ih2
 | iface t _ ih=>exact .iface t ih
 | agg e _ ih=>exact .agg e ih
 | tuple e _ ih=>exact .tuple e ih
theorem LR.mono {l l':List Value} (h:LR ν l l') (hl:ν.Le ν'):LR ν' l l':=by
 induction h with
 | nil=>exact .nil
 | cons h _ ih=>exact .cons (h.mono hl) ih
theorem LR.length {l l':List Value} (h:LR ν l l'):l'.length=l.length:=by
 induction h with
 | nil=>rfl
 | cons _ _ ih=>simp [ih]
theorem LR.get {l l':List Value} (h:LR ν l l') {i:Nat} {v:Value} (hv:l[i]?=some v):∃ v',l'[i]?=some v' /\ VRi ν v v':=by
 induction h generalizing i with
 | nil=>simp at hv
 | cons hd _ ih =>
  cases i with
  | zero=>simp at hv;subst hv;exact ⟨_,rfl,hd⟩
  | succ i=>simp at hv;simpa using ih hv
theorem LR.of_get {l l':List Value} (e:l.length=l'.length) (h:∀ (i:Nat) (v v':Value),l[i]?=some v -> l'[i]?=some v' -> VRi ν v v'):LR ν l l':=by
 induction l generalizing l' with
 | nil=>cases l' with
  | nil=>exact .nil
  | cons _ _=>simp at e
 | cons v l ih=>cases l' with
  | nil=>simp at e
  | cons v' l'=>exact .cons (h 0 v v' rfl rfl) (ih (by simpa using e) λ i u u' hu hu'=>h (i+1) u u' (by simpa using hu) (by simpa using hu'))
theorem LR.of_arr {c c':Array Value} (e:c.size=c'.size) (h:∀ (i:Nat) (v v':Value),c[i]?=some v -> c'[i]?=some v' -> VRi ν v v'):LR ν c.toList c'.toList :=
 .of_get (by simpa using e) λ i v v' h1 h2=>h i v v' (by simpa using h1) (by simpa using h2)
theorem LR.arr {l l':List Value} (h:LR ν l l'):(⟨l⟩:Array Value).size=(⟨l'⟩:Array Value).size /\ (∀ (i:Nat) (v v':Value),(⟨l⟩:Array Value)[i]?=some v -> (⟨l'⟩:Array Value)[i]?=some v' -> VRi ν v v'):=by
 refine ⟨by simp [h.length],λ i v v' h1 h2=>?_⟩
 obtain ⟨u,hu,hr⟩:=h.get (i:=i) (v:=v) (by simpa using h1)
 have:u=v':=by
  have h2':l'[i]?=some v':=by simpa using h2
  rw [hu] at h2';simpa using h2'
 subst this;exact hr
theorem VRi.agg_of {l l':List Value} (h:LR ν l l'):VRi ν (.agg ⟨l⟩) (.agg ⟨l'⟩):=.agg h.arr.1 h.arr.2
theorem VRi.tuple_of {l l':List Value} (h:LR ν l l'):VRi ν (.tuple ⟨l⟩) (.tuple ⟨l'⟩):=.tuple h.arr.1 h.arr.2
theorem VRi.func_of {fn fn':Fn} {l l' c c':List Value} (hf:FnR ν fn fn') (h:LR ν l l') (k:LR ν c c'):VRi ν (.func fn ⟨l⟩ ⟨c⟩) (.func fn' ⟨l'⟩ ⟨c'⟩):=.func hf h.arr.1 h.arr.2 k.arr.1 k.arr.2
theorem VRi.undef:VRi ν undef undef:=.tuple rfl (by simp)
theorem LR.append {a a' b b':List Value} (h:LR ν a a') (k:LR ν b b'):LR ν (a++b) (a'++b'):=by
 induction h with
 | nil=>exact k
 | cons h _ ih=>exact .cons h ih
theorem VRi.plain_refl:∀ (v:Value),pl v=true -> VRi ν v v:=by
 intro v
 refine Value.rec (motive_1:=λ v=>pl v=true -> VRi ν v v) (motive_2:=λ a=>JZ a=true -> LR ν a.toList a.toList) (motive_3:=λ l=>wa l=true -> LR ν l l)
  ?_ ?_ ?_ ?_ ?_ ?_ ?_ ?_ ?_ ?_ ?_ ?_ ?_ ?_ ?_ ?_ ?_ ?_ v
 case _=>exact λ b _=>.atom _ rfl
 case _=>exact λ b _ _=>.atom _ rfl
 case _=>exact λ b _ _=>.atom _ rfl
 case _=>exact λ b _ _ _=>.atom _ rfl
 case _=>exact λ b _=>.atom _ rfl
 case _=>intro a h;cases a with
  | none=>exact .atom _ rfl
  | some a=>simp [pl] at h
 case _=>intro a n c h;cases a with
  | none=>exact .atom _ rfl
  | some a=>simp [pl] at h
 case _=>intro a h;cases a with
  | none=>exact .atom _ rfl
  | some a=>simp [pl] at h
 case _=>intro a h;simp [pl] at h
 case _ =>
  intro fn f c ih1 ih2 h
  cases fn with
  | func g =>
   rw [pl] at h
   split at h
   ·rename_i e
    have:=VRi.func_of (FnR.func (ν:=ν) g) (ih1 e) (ih2 h)
    exact this
   ·cases h
  | _=>simp [pl] at h
 case _=>exact λ _=>.atom _ rfl
 case _=>intro t v ih h;exact .iface t (ih (by simpa [pl] using h))
 case _=>exact λ _=>.atom _ rfl
 case _=>intro c ih h;exact .agg_of (ih (by simpa [pl] using h))
 case _=>intro c ih h;exact .tuple_of (ih (by simpa [pl] using h))
 case _=>intro l ih h;exact ih (by simpa [JZ] using h)
 case _=>exact λ _=>.nil
 case _ =>
  intro v l ih1 ih2 h
  rw [wa] at h
  split at h
  ·rename_i e;exact .cons (ih1 e) (ih2 h)
  ·cases h
theorem VRi.plain_eq {v v':Value} (h:VRi ν v v') (hp:pl v=true):v'=v:=by
 have key:∀ (l l':List Value),LR ν l l' -> (∀ v ∈ l,∀ v',VRi ν v v' -> pl v=true -> v'=v) -> wa l=true -> l'=l:=by
  intro l l' hl
  induction hl with
  | nil=>intros;rfl
  | cons hd _ ih =>
   intro hv hpl
   rw [wa] at hpl
   split at hpl
   ·rename_i e
    rw [hv _ List.mem_cons_self _ hd e,ih (λ v hm=>hv v (List.mem_cons_of_mem _ hm)) hpl]
   ·cases hpl
 have arr:∀ (c c':Array Value),c.size=c'.size -> (∀ (i:Nat) (v v':Value),c[i]?=some v -> c'[i]?=some v' -> VRi ν v v') -> (∀ (i:Nat) (v v':Value),c[i]?=some v -> c'[i]?=some v' -> pl v=true -> v'=v) -> JZ c=true -> c'=c:=by
  intro c c' e h1 h2 hp
  obtain ⟨l⟩:=c
  obtain ⟨l'⟩:=c'
  have hl:=LR.of_arr e h1
  rw [JZ] at hp
  have hall:∀ v ∈ l,pl v=true:=by
   clear h1 h2 e hl
   induction l with
   | nil=>intro v hv;cases hv
   | cons u l ih =>
    rw [wa] at hp
    split at hp
    ·rename_i eu
     intro v hv
     rcases List.mem_cons.1 hv with rfl | hv
     ·exact eu
     ·exact ih hp v hv
    ·cases hp
  congr 1
  apply List.ext_getElem?
  intro i
  cases hi:l[i]? with
  | none =>
   have e':l.length=l'.length:=by simpa using e
   rw [List.getElem?_eq_none_iff] at hi ⊢
   omega
  | some v =>
   obtain ⟨v',h3,h4⟩:=hl.get hi
   simp only at h3
   rw [h3,h2 i v v' (by simpa using hi) (by simpa using h3) (hall v (List.mem_of_getElem? hi))]
 induction h with
 | atom v h=>rfl
 | ptr o h=>simp [pl] at hp
 | slice o n h c=>simp [pl] at hp
 | map h=>simp [pl] at hp
 | func hf e1 h1 e2 h2 ih1 ih2 =>
  cases hf with
  | func g =>
   rw [pl] at hp
   split at hp
   ·rename_i e
    rw [arr _ _ e1 h1 ih1 e,arr _ _ e2 h2 ih2 hp]
   ·cases hp
  | yield _=>simp [pl] at hp
 | iface t _ ih=>rw [ih (by simpa [pl] using hp)]
 | agg e h1 ih=>rw [arr _ _ e h1 ih (by simpa [pl] using hp)]
 | tuple e h1 ih=>rw [arr _ _ e h1 ih (by simpa [pl] using hp)]
end vr
theorem qJ {α β γ:Type} (s:Sem α) (f:α -> Sem β) (g:β -> Sem γ):(s.bind f).bind g=s.bind λ x=>(f x).bind g:=by
 induction s <;> simp only [Sem.bind] <;> first | rfl | (congr 1;funext x;rename_i ih;exact ih x) | (rename_i ih;rw [ih])
theorem rU {α:Type} (s:Sem α):s.bind .pure=s:=by
 induction s <;> simp only [Sem.bind] <;> first | rfl | (congr 1;funext x;rename_i ih;exact ih x) | (rename_i ih;rw [ih])
theorem iJ:LawfulMonad Sem:=LawfulMonad.mk' (m:=Sem)
 (id_map:=λ x=>rU x) (pure_bind:=λ _ _=>rfl) (bind_assoc:=λ x f g=>qJ x f g)
section lists
variable {ν:Nu} {P:Program}
theorem dW (l:List Value):fW l=l.length:=by induction l with
 | nil=>rfl
 | cons v l ih=>simp [fW,ih]
theorem fY (v:Value):gF v=v.cells.toList:=by cases v <;> rfl
theorem j6 {v v':Value} (h:VRi ν v v'):LR ν (gF v) (gF v'):=by
 cases h with
 | atom v h=>cases v <;> first | exact .cons (.atom _ h) .nil | simp [cz] at h
 | ptr o h=>exact .cons (.ptr o h) .nil
 | slice o n h c=>exact .cons (.slice o n h c) .nil
 | map h=>exact .cons (.map h) .nil
 | func hf e1 h1 e2 h2=>exact .cons (.func hf e1 h1 e2 h2) .nil
 | iface t h=>exact .cons (.iface t h) .nil
 | agg e h=>exact .of_arr e h
 | tuple e h=>exact .cons (.tuple e h) .nil
theorem j7 (l:List Value) (i:Nat):nu l i=l[i]?:=by
 induction l generalizing i with
 | nil=>rfl
 | cons v l ih=>cases i with
  | zero=>rfl
  | succ i=>simpa [nu] using ih i
theorem wy (l:List Value) (i:Nat):sJ l i=l.drop i:=by
 induction l generalizing i with
 | nil=>simp [sJ]
 | cons v l ih=>cases i with
  | zero=>rfl
  | succ i=>simpa [sJ] using ih i
theorem wz (l:List Value) (i:Nat):sK l i=l.take i:=by
 induction l generalizing i with
 | nil=>simp [sK]
 | cons v l ih=>cases i with
  | zero=>rfl
  | succ i=>simpa [sK] using ih i
theorem LR.drop {l l':List Value} (h:LR ν l l') (n:Nat):LR ν (l.drop n) (l'.drop n):=by
 induction h generalizing n with
 | nil=>simpa using LR.nil
 | cons h1 h2 ih=>cases n with
  | zero=>exact .cons h1 h2
  | succ n=>simpa using ih n
theorem LR.take {l l':List Value} (h:LR ν l l') (n:Nat):LR ν (l.take n) (l'.take n):=by
 induction h generalizing n with
 | nil=>simpa using LR.nil
 | cons h1 h2 ih=>cases n with
  | zero=>simpa using LR.nil
  | succ n=>simpa using LR.cons h1 (ih n)
theorem sP {vs vs':List Value} (h:LR ν vs vs'):∀ {l l' r:List Value},LR ν l l' -> ko vs l=some r -> ∃ r',ko vs' l'=some r' /\ LR ν r r':=by
 induction h with
 | nil=>intro l l' r hl e;rw [ko] at e;cases e;exact ⟨_,rfl,hl⟩
 | cons hv _ ih =>
  intro l l' r hl e
  cases hl with
  | nil=>simp [ko] at e
  | cons h1 h2 =>
   rw [ko] at e
   split at e
   ·rename_i r0 hr
    cases e
    obtain ⟨r1,e1,e2⟩:=ih h2 hr
    exact ⟨_,by rw [ko,e1],.cons hv e2⟩
   ·cases e
theorem Cz {vs vs':List Value} (h:LR ν vs vs'):∀ {l l' r:List Value} (i:Nat),LR ν l l' -> eO vs l i=some r -> ∃ r',eO vs' l' i=some r' /\ LR ν r r':=by
 intro l l' r i hl
 induction hl generalizing i r with
 | nil =>
  intro e
  cases i with
  | zero=>exact sP h .nil e
  | succ i=>simp [eO] at e
 | cons h1 h2 ih =>
  intro e
  cases i with
  | zero=>exact sP h (.cons h1 h2) e
  | succ i =>
   rw [eO] at e
   split at e
   ·rename_i r0 hr
    cases e
    obtain ⟨r1,e1,e2⟩:=ih i hr
    exact ⟨_,by rw [eO];simp only [e1],.cons h1 e2⟩
   ·cases e
inductive PR (ν:Nu):List (Nat × Value) -> List (Nat × Value) -> Prop
 | nil:PR ν [] []
 | cons {v v':Value} {l l':List (Nat × Value)} (i:Nat):VRi ν v v' -> PR ν l l' -> PR ν ((i,v) :: l) ((i,v') :: l')
theorem oc {place:Nat -> Option (Nat × Nat)} {ps ps':List (Nat × Value)} (h:PR ν ps ps'):∀ {l l' r:List Value},LR ν l l' -> kq place ps l=some r -> ∃ r',kq place ps' l'=some r' /\ LR ν r r':=by
 induction h with
 | nil=>intro l l' r hl e;rw [kq] at e;cases e;exact ⟨_,rfl,hl⟩
 | cons i hv _ ih =>
  intro l l' r hl e
  rw [kq] at e
  split at e
  ·rename_i off k hp
   split at e
   ·cases e
   ·rename_i hb
    split at e
    ·rename_i l1 hl1
     have hc:=j6 hv
     obtain ⟨l2,e1,e2⟩:=Cz hc off hl hl1
     obtain ⟨r',e3,e4⟩:=ih e2 e
     refine ⟨r',?_,e4⟩
     rw [kq,hp]
     simp only [e1,e3]
     rw [dW] at hb ⊢
     rw [hc.length,hb]
    ·cases e
  ·cases e
theorem sQ (l:List Value):ko [] l=some l:=by cases l <;> rfl
theorem sR {l r:List Value} {i:Nat} (h:eO [] l i=some r):r=l:=by
 induction l generalizing i r with
 | nil=>cases i with
  | zero=>rw [eO] at h;simp only [sQ] at h;cases h;rfl
  | succ i=>simp [eO] at h
 | cons x l ih=>cases i with
  | zero=>rw [eO] at h;simp only [sQ] at h;cases h;rfl
  | succ i =>
   rw [eO] at h
   split at h
   ·rename_i l1 hl;cases h;rw [ih hl]
   ·cases h
theorem qK {v:Value} {vs l r:List Value} {i:Nat} (h:eO (v :: vs) l i=some r):i < l.length /\ eO vs (l.set i v) (i+1)=some r:=by
 induction l generalizing i r with
 | nil=>cases i <;> simp [eO,ko] at h
 | cons x l ih=>cases i with
  | zero =>
   rw [eO] at h
   simp only [ko] at h
   split at h
   ·rename_i l1 hl
    cases h
    refine ⟨by simp,?_⟩
    simp only [List.set_cons_zero]
    rw [eO]
    cases l with
    | nil=>rw [eO];simp only [hl]
    | cons y l=>rw [eO];simp only [hl]
   ·cases h
  | succ i =>
   rw [eO] at h
   split at h
   ·rename_i l1 hl
    cases h
    obtain ⟨h1,h2⟩:=ih hl
    refine ⟨by simp;omega,?_⟩
    simp only [List.set_cons_succ]
    rw [eO];simp only [h2]
   ·cases h
theorem CA {vs l r:List Value} {i:Nat} (h:eO vs l i=some r):r.length=l.length /\ (vs ≠ [] -> i+vs.length <= l.length):=by
 induction vs generalizing l i with
 | nil=>rw [sR h];simp
 | cons v vs ih =>
  obtain ⟨h1,h2⟩:=qK h
  obtain ⟨h3,h4⟩:=ih h2
  rw [List.length_set] at h3 h4
  refine ⟨h3,λ _=>?_⟩
  cases vs with
  | nil=>simp;omega
  | cons u vs=>have:=h4 (by simp);simp at this ⊢;omega
theorem yH {vs l r:List Value} {off k:Nat} (h:eO vs l (off+k)=some r):(vs.zipIdx k).foldl (λ (cs:Array Value) p=>cs.setIfInBounds (off+p.2) p.1) ⟨l⟩=⟨r⟩:=by
 induction vs generalizing l k with
 | nil=>rw [sR h];rfl
 | cons v vs ih =>
  obtain ⟨h1,h2⟩:=qK h
  rw [List.zipIdx_cons,List.foldl_cons]
  have:=ih (l:=l.set (off+k) v) (k:=k+1) h2
  simpa using this
theorem j8 {place:Nat -> Option (Nat × Nat)}:∀ {ps:List (Nat × Value)} {l r:List Value},kq place ps l=some r -> Instr.fill place ⟨l⟩ ps=some ⟨r⟩
 | [],l,r,h=>by rw [kq] at h;cases h;rfl
 | (i,v) :: ps,l,r,h=>by
  rw [kq] at h
  split at h
  ·rename_i off k hp
   split at h
   ·cases h
   ·rename_i hs
    split at h
    ·rename_i l1 hl1
     have hs':(gF v).length=k+1:=by rw [dW] at hs;exact Nat.eq_of_beq_eq_true hs
     have hsz:v.cells.size=k+1:=by rw [<- hs',fY];simp
     have hbd:=(CA hl1).2 (by intro e;rw [e] at hs';simp at hs')
     rw [Instr.fill,hp]
     simp only
     rw [if_neg (by rw [hsz];simp;omega)]
     have:=yH (k:=0) (off:=off) (by simpa using hl1)
     have e2:(Array.foldl (λ (cs:Array Value) (x:Value × Nat)=>cs.setIfInBounds (off+x.2) x.1) ⟨l⟩ v.cells.zipIdx)=⟨l1⟩:=by
      rw [<- Array.foldl_toList,Array.toList_zipIdx,<- fY]
      exact this
     have e3:=j8 (r:=r) h
     rw [<- e3,<- e2]
    ·cases h
  ·cases h
end lists
structure TRel (ν:Nu) (N:Nat) (T:Tr Value) (tm:Array Value):Prop where
 size:tm.size=N
 get:∀ t,t < N -> ∃ v',tm[t]?=some v' /\ VRi ν (cQ T t) v'
 out:∀ t,N <= t -> cQ T t=undef
section fr
variable {ν ν':Nu} {P:Program} {G N:Nat} {T T':Tr Value} {a:Act}
theorem TRel.mono {tm:Array Value} (h:TRel ν N T tm) (hl:ν.Le ν'):TRel ν' N T tm :=
 ⟨h.size,λ t ht=>let ⟨v',e,r⟩:=h.get t ht;⟨v',e,r.mono hl⟩,h.out⟩
theorem TRel.set {tm:Array Value} (h:TRel ν N T tm) {d:Nat} {v v':Value} (hd:d < N) (hv:VRi ν v v'):TRel ν N (rQ T d v) (tm.setIfInBounds d v'):=by
 refine ⟨by simp [h.size],λ t ht=>?_,λ t ht=>?_⟩
 ·unfold cQ rQ
  rw [iI]
  by_cases e:d=t
  ·subst e
   refine ⟨v',?_,by simpa using hv⟩
   rw [Array.getElem?_setIfInBounds_self_of_lt (by rw [h.size];exact hd)]
  ·rw [if_neg e,Array.getElem?_setIfInBounds_ne e]
   exact h.get t ht
 ·unfold cQ rQ
  rw [qI _ (by omega)]
  exact h.out t ht
theorem TRel.put (h:TRel ν N T a.tmps) {dst:Option Tmp} {v v':Value} (hv:VRi ν v v') (hp:eX N dst v T=some T'):TRel ν N T' (a.put dst v').tmps:=by
 unfold eX at hp
 split at hp
 ·cases hp;exact h
 ·rename_i d
  split at hp
  ·rename_i hd
   cases hp
   exact h.set (Nat.lt_of_lt_of_le (Nat.lt_of_succ_le (Nat.le_of_ble_eq_true hd)) (Nat.le_refl _)) hv
  ·cases hp
theorem fo (a:Act) (dst:Option Tmp) (v:Value):(a.put dst v).defers=a.defers:=by cases dst <;> rfl
structure FE (ν:Nu) (G N:Nat) (T:Tr Value) (a:Act):Prop where
 t:TRel ν N T a.tmps
 g:∀ k,k < G -> ∃ K,ν k=some (k,K)
theorem dE {a b:Nat} (h:Nat.blt a b=true):a < b:=Nat.le_of_ble_eq_true h
theorem FE.ael (h:FE ν G N T a) {x:Operand} (hx:N5 G x=true):VRi ν (ael T x) (a.eval x):=by
 cases x with
 | tmp t =>
  show VRi ν (cQ T t) (a.eval (.tmp t))
  unfold Act.eval
  simp only
  rcases Nat.lt_or_ge t N with ht | ht
  ·obtain ⟨v',e,r⟩:=h.t.get t ht
   simpa [e] using r
  ·rw [h.t.out t ht,Array.getD_eq_getD_getElem?,Array.getElem?_eq_none (by rw [h.t.size];exact ht)]
   exact VRi.undef
 | const v=>exact .plain_refl _ hx
 | global g =>
  obtain ⟨K,e⟩:=h.g g (dE hx)
  exact .ptr 0 e
 | func f=>exact .func (.func f) rfl (by simp) rfl (by simp)
theorem qL {l:List Operand} (h:rR G l=true):∀ x ∈ l,N5 G x=true:=by
 induction l with
 | nil=>intro x hx;cases hx
 | cons y l ih =>
  rw [rR] at h
  split at h
  ·rename_i e
   intro x hx
   rcases List.mem_cons.1 hx with rfl | hx
   ·exact e
   ·exact ih h x hx
  ·cases h
def OK (ν:Nu) (T:Tr Value) (a:Act) (l:List Operand):Prop:=∀ x ∈ l,VRi ν (Go.Proofs.YtobflkidpfkcaaaGreatDoor.ael T x) (a.eval x)
theorem FE.ok (h:FE ν G N T a) {l:List Operand} (hl:rR G l=true):OK ν T a l:=λ x hx=>h.ael (qL hl x hx)
theorem IK {α:Type} (s:Sem α):∀ {x:α},wb P s=some x -> ∀ w,s.run P w=.ok x w:=by
 induction s with
 | pure a=>intro x h w;rw [wb] at h;cases h;rfl
 | program k ih=>intro x h w;rw [wb] at h;rw [Sem.run];exact ih _ h w
 | mark m k ih=>intro x h w;rw [wb] at h;rw [Sem.run];exact ih h w
 | _=>intro x h;simp [wb] at h
theorem yI {l:List Operand} (h:uc T l=true):∀ x ∈ l,pl (Go.Proofs.YtobflkidpfkcaaaGreatDoor.ael T x)=true:=by
 induction l with
 | nil=>intro x hx;cases hx
 | cons y l ih =>
  rw [uc] at h
  split at h
  ·rename_i e
   intro x hx
   rcases List.mem_cons.1 hx with rfl | hx
   ·exact e
   ·exact ih h x hx
  ·cases h
theorem od {o:Oper} {v:Value} (h:fX P T o=some v) {l:List Operand} (hl:cf o.op=some l) (hok:OK ν T a l):∃ v',VRi ν v v' /\ ∀ w,(execOp a.eval o).run P w=.ok (.value v') w:=by
 unfold fX at h
 rw [hl] at h
 simp only at h
 split at h
 case h_2=>cases h
 rename_i hp
 split at h
 case h_2=>cases h
 rename_i u hr
 split at h
 case h_2=>cases h
 rename_i hv
 cases h
 obtain ⟨k1,k2⟩:=r6 hl
 have e:execOp a.eval o=execOp (Go.Proofs.YtobflkidpfkcaaaGreatDoor.ael T) o:=execOp_congr o k2 λ x hx=>(hok x (k1 x hx)).plain_eq (yI hp x (k1 x hx))
 exact ⟨v,.plain_refl _ hv,λ w=>by rw [e];exact IK _ hr w⟩
theorem Fw {w:World} {ρ:Operand -> Value} {o:Oper} {op:BinOp} {t ty:TypeId} {x y:Operand} {k:IntKind} {m n:Int} {r:Bool} (ho:o.op=.binOp op t x y ty) (hx:ρ x=.int k m) (hy:ρ y=.int k n) (h:Fb op m n=some r):(execOp ρ o).run P w=.ok (.value (.bool r)) w:=by
 unfold Fb at h
 split at h <;> first | (cases h;done) | skip
 all_goals
  cases h
  simp [execOp,ho,hx,hy,eqGuard,Go.binOp,Op.intCmp,pure,bind,Sem.bind,Sem.run]
theorem wA {t:TypeId} (h:wc P t=true) (w:World):(isAgg t).run P w=.ok false w:=by
 unfold wc at h
 split at h
 ·cases h
 ·cases h
 ·rename_i d h1 h2 hu
  unfold isAgg
  rw [Sem.run_bind,aP hu]
  simp only [Result.andThen_ok]
  cases d <;> first | rfl | exact (h1 _ hu).elim | exact (h2 _ _ hu).elim
 ·cases h
theorem wB {t:TypeId} {k:Nat} (h:yz P t=some k):(∀ w,(isAgg t).run P w=.ok true w) /\ (∀ w,(sizeOf t).run P w=.ok k w) /\ eM P t=some k:=by
 unfold yz at h
 split at h
 case h_3=>cases h
 all_goals
  rename_i hu
  rw [Option.map_eq_some_iff] at h
  obtain ⟨i,hi,rfl⟩:=h
  refine ⟨λ w=>?_,λ w=>?_,by unfold eM;rw [hi];rfl⟩
  ·unfold isAgg
   rw [Sem.run_bind,aP hu]
   rfl
  ·unfold sizeOf
   rw [Sem.run_bind,dX hi]
   rfl
theorem d6 {t:TypeId} {k:Nat} (h:eM P t=some k) (w:World):(sizeOf t).run P w=.ok k w:=by
 unfold eM at h
 rw [Option.map_eq_some_iff] at h
 obtain ⟨i,hi,rfl⟩:=h
 unfold sizeOf
 rw [Sem.run_bind,dX hi]
 rfl
theorem sS {t:TypeId} {cs:Array Value} {off:Nat} {v:Value} (h:nv P t cs.toList off=some v) (w:World):(part t cs off).run P w=.ok v w:=by
 unfold nv at h
 split at h
 ·rename_i h1
  rw [j7] at h
  unfold part
  rw [Sem.run_bind,wA h1]
  have h2:cs[off]?=some v:=by simpa using h
  simp [h2]
 ·split at h
  ·rename_i k hk
   cases h
   obtain ⟨h1,h2,h3⟩:=wB hk
   unfold part
   rw [Sem.run_bind,h1]
   simp only [Result.andThen_ok,if_true,Sem.run_bind,h2]
   rw [wy,wz]
   have:cs.extract off (off+k)=⟨(cs.toList.drop off).take k⟩:=by
    apply Array.ext'
    simp
   rw [this];rfl
  ·cases h
theorem sT {t:TypeId} {l l':List Value} {off:Nat} {v:Value} (hl:LR ν l l') (h:nv P t l off=some v):∃ v',nv P t l' off=some v' /\ VRi ν v v':=by
 unfold nv at h ⊢
 split at h
 ·rename_i h1
  rw [j7] at h
  obtain ⟨v',e,r⟩:=hl.get h
  exact ⟨v',by simpa [j7] using e,r⟩
 ·rename_i h1
  split at h
  ·rename_i k hk
   cases h
   refine ⟨.agg ⟨sK (sJ l' off) k⟩,rfl,?_⟩
   simp only [wz,wy]
   exact .agg_of ((hl.drop _).take _)
  ·cases h
theorem qM {ps:List (Nat × Operand)} (h:OK ν T a (ps.map (·.2))):PR ν (ud T ps) (ps.map λ p=>(p.1,a.eval p.2)):=by
 induction ps with
 | nil=>exact .nil
 | cons p ps ih=>exact .cons _ (h _ (by simp)) (ih λ x hx=>h x (List.mem_cons_of_mem _ hx))
theorem kS {l:List Operand} (h:OK ν T a l):LR ν (mv T l) (l.map a.eval):=by
 induction l with
 | nil=>exact .nil
 | cons x l ih=>exact .cons (h _ List.mem_cons_self) (ih λ y hy=>h y (List.mem_cons_of_mem _ hy))
theorem jK {t:TypeId} {z:List Value} (h:kr P t=some z):∃ zv,(∀ w,(zeroValue t).run P w=.ok zv w) /\ zv.cells=⟨z⟩ /\ LR ν z z /\ (∃ i,P.info? t=some i /\ i.zero=some zv):=by
 unfold kr at h
 split at h
 case h_2=>cases h
 rename_i i hi
 split at h
 case h_2=>cases h
 rename_i zv hz
 split at h
 case h_2=>cases h
 rename_i hp
 cases h
 refine ⟨zv,λ w=>?_,by rw [fY],j6 (.plain_refl _ hp),i,hi,hz⟩
 unfold zeroValue
 rw [Sem.run_bind,dX hi]
 simp only [Result.andThen_ok,hz]
 rfl
theorem lW:∀ {fs:List Field} {l:List (Nat × Nat)},jF P fs=some l -> ∀ w,((fs.mapM λ f=>(do pure (f.offset,<- sizeOf f.type):Sem (Nat × Nat)))).run P w=.ok l w
 | [],l,h,w=>by rw [jF] at h;cases h;rfl
 | f :: fs,l,h,w=>by
  rw [jF] at h
  split at h
  ·rename_i k l0 h1 h2
   cases h
   haveI:=iJ
   rw [List.mapM_cons,Sem.run_bind,Sem.run_bind,d6 h1]
   have:=lW h2 w
   simp only [cE,Result.andThen_ok]
   rw [Sem.run_bind,this]
   rfl
  ·cases h
theorem IL (l:List (Nat × Nat)) (i:Nat):Fd l i=l[i]?:=by
 induction l generalizing i with
 | nil=>rfl
 | cons v l ih=>cases i with
  | zero=>rfl
  | succ i=>simpa [Fd] using ih i
theorem CB {t:TypeId} {ps ps':List (Nat × Value)} {v:Value} (h:yA P t ps=some v) (hr:PR ν ps ps'):∃ v',VRi ν v v' /\ ∀ w,(Instr.build t ⟨ps'⟩).run P w=.ok v' w:=by
 unfold yA at h
 split at h
 case h_2=>cases h
 rename_i z hz
 obtain ⟨zv,h1,h2,h3,-⟩:=jK (ν:=ν) hz
 split at h
 ·rename_i fs hu
  split at h
  case h_2=>cases h
  rename_i pls hs
  split at h
  case h_2=>cases h
  rename_i l hf
  cases h
  obtain ⟨l',e1,e2⟩:=oc hr h3 hf
  refine ⟨.agg ⟨l'⟩,.agg_of e2,λ w=>?_⟩
  have h4:=lW hs w
  haveI:=iJ
  unfold Instr.build
  rw [Sem.run_bind,h1]
  simp only [Result.andThen_ok]
  rw [Sem.run_bind,aP hu]
  simp only [Result.andThen_ok]
  rw [Sem.run_bind,Array.mapM_eq_mapM_toList]
  have h5:((List.toArray <$> (fs.toList.mapM λ f=>(do pure (f.offset,<- sizeOf f.type):Sem (Nat × Nat)))):Sem (Array (Nat × Nat))).run P w=.ok ⟨pls⟩ w:=by
   rw [<- bind_pure_comp,Sem.run_bind,h4]
   rfl
  rw [h5]
  simp only [Result.andThen_ok]
  have h6:=j8 e1
  have h7:(λ i=>(⟨pls⟩:Array (Nat × Nat))[i]?)=Fd pls:=by funext i;rw [IL];simp
  rw [h2,h7,h6]
  rfl
 ·rename_i n el hu
  split at h
  case h_2=>cases h
  rename_i k hk
  split at h
  case h_2=>cases h
  rename_i l hf
  cases h
  obtain ⟨l',e1,e2⟩:=oc hr h3 hf
  refine ⟨.agg ⟨l'⟩,.agg_of e2,λ w=>?_⟩
  unfold Instr.build
  rw [Sem.run_bind,h1]
  simp only [Result.andThen_ok]
  rw [Sem.run_bind,aP hu]
  simp only [Result.andThen_ok]
  rw [Sem.run_bind,d6 hk]
  simp only [Result.andThen_ok]
  have h6:=j8 e1
  rw [h2,h6]
  rfl
 ·cases h
theorem yJ {w:World} {ρ:Operand -> Value} {o:Oper} {t ft:TypeId} {j k:Nat} {x:Operand} {ad:Addr} (ho:o.op=.fieldAddr t x j) (hx:ρ x=.pointer (some ad)) (hf:wg P t j=some (k,ft)):(execOp ρ o).run P w=.ok (.value (.pointer (some (ad.add k)))) w:=by
 unfold wg at hf
 split at hf
 case h_2=>cases hf
 rename_i fs hu
 split at hf
 case h_2=>cases hf
 rename_i f hj
 split at hf
 case h_2=>cases hf
 rename_i inf hi
 split at hf
 ·cases hf
 rename_i m hm
 cases hf
 have h1:=λ W=>aP hu W
 have h2:=λ W=>dX hi W
 simp [execOp,ho,Instr.fieldAt,Instr.sureAddr,hx,Sem.run_bind,h1,hj,fieldPlace,sizeOf,h2,hm]
theorem yK {w:World} {ρ:Operand -> Value} {o:Oper} {t ft:TypeId} {j k:Nat} {x:Operand} {cs:Array Value} {v:Value} (ho:o.op=.field t x j) (hx:ρ x=.agg cs) (hf:wg P t j=some (k,ft)) (hp:nv P ft cs.toList k=some v):(execOp ρ o).run P w=.ok (.value v) w:=by
 unfold wg at hf
 split at hf
 case h_2=>cases hf
 rename_i fs hu
 split at hf
 case h_2=>cases hf
 rename_i f hj
 split at hf
 case h_2=>cases hf
 rename_i inf hi
 split at hf
 ·cases hf
 rename_i m hm
 cases hf
 have h1:=λ W=>aP hu W
 have h2:=sS hp
 simp [execOp,ho,Instr.field,asAgg,hx,Sem.run_bind,h1,hj,h2]
theorem nA (h o k:Nat):yB ⟨h,o,none⟩ k=⟨h,o+k,none⟩:=by cases k <;> rfl
theorem mz (h o k:Nat):(⟨h,o,none⟩:Addr).add k=⟨h,o+k,none⟩:=by
 unfold Addr.add
 split
 ·rename_i e;subst e;rfl
 ·rfl
theorem mA {v v':Value} {n:Nat} (h:Hz v=some n) (hr:VRi ν v v'):∃ k,v'=.int k (n:Int):=by
 unfold Hz at h
 split at h
 ·rename_i k m
  cases h
  cases hr
  exact ⟨k,rfl⟩
 ·cases h
end fr
end Go.Proofs.YtobflkidpfkcaaaGreatDoor
