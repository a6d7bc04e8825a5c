import Derived.Test.YtjokannbjmndfaaGreatDoorZ23
set_option linter.all false
set_option maxHeartbeats 4000000
set_option maxRecDepth 100000
namespace Go.Proofs.YtjokannbjmndfaaGreatDoor
open Go.RowKit
variable {K i j k off:Nat} {O_ l' vs:List Value} {Yc ps:List (Nat×Value)} {b:Bool} {ft t:TypeId} {o:Oper} {p:List Bool} {tm:Array Value} {v':Value} {w:World} {α:Type} {ρ:Operand->Value}
section tr
variable {α:Type} {d x:α}
theorem za:fY d [] .lf=d:=rfl
theorem zb{v:α}{l r:Tr α}:fY d [] (.nd v l r)=v:=rfl
theorem oz:fY d (b::p) .lf=d:=rfl
theorem fo{v:α}{l r:Tr α}:fY d (b::p) (.nd v l r)=fY d p (match b with|true=>r|false=>l):=by cases b <;> rfl
theorem qX:fY d p .lf=d:=by cases p <;> rfl
theorem zc:dL d x [] .lf=.nd x .lf .lf:=rfl
theorem zd{v:α}{l r:Tr α}:dL d x [] (.nd v l r)=.nd x l r:=rfl
theorem kw:dL d x (b::p) .lf=(match b with|true=>.nd d .lf (dL d x p .lf)|false=>.nd d (dL d x p .lf) .lf):=by cases b <;> rfl
theorem kx{v:α}{l r:Tr α}:dL d x (b::p) (.nd v l r)=(match b with|true=>.nd v l (dL d x p r)|false=>.nd v (dL d x p l) r):=by cases b <;> rfl
theorem Jg:∀t:Tr α,fY d p (dL d x p t)=x:=by
 induction p with
 |nil=>intro t;cases t <;> rfl
 |cons b p ih=>
  intro t;cases t with
  |lf=>rw[kw];cases b <;> simp only[fo] <;> exact ih _
  |nd v l r=>rw[kx];cases b <;> simp only[fo] <;> exact ih _
theorem ze:∀ (p q:List Bool) (t:Tr α),p≠q->fY d q (dL d x p t)=fY d q t:=by
 intro p
 induction p with
 |nil=>
  intro q t h;cases q with
  |nil=>exact absurd rfl h
  |cons c q=>cases t <;> cases c <;> simp[zc,zd,fo,oz,qX]
 |cons b p ih=>
  intro q t h;cases q with
  |nil=>cases t <;> cases b <;> simp[kw,kx,zb,za]
  |cons c q=>
   cases t with
   |lf=>
    rw[kw,oz];cases b <;> cases c <;> simp only[fo,qX] <;> (rw[ih _ _ (λ e=>h (by rw[e]))];exact qX)
   |nd v l r=>
    rw[kx,fo];cases b <;> cases c <;> simp only[fo] <;> exact ih _ _ (λ e=>h (by rw[e]))
theorem FF(k i:Nat):I1 (k+1) (i+1)=(Nat.beq (i%2) 1::I1 k (i/2)):=rfl
def Ti:List Bool->Nat
 | []=>0
 |b::p=>2*Ti p+(match b with|true=>1|false=>0)+1
theorem Di:∀k i,i<=k->Ti (I1 k i)=i:=by
 intro k
 induction k with
 |zero=>
  intro i h;obtain rfl:i=0:=by omega
  rfl
 |succ k ih=>
  intro i h;cases i with
  |zero=>rfl
  |succ i=>
   rw[FF];show 2*Ti (I1 k (i/2))+(match Nat.beq (i%2) 1 with|true=>1|false=>0)+1=i+1;rw[ih _ (by omega)];rcases Nat.mod_two_eq_zero_or_one i with e|e <;> rw[e] <;> simp <;> omega
theorem Mu(h:pth i=pth j):i=j:=by
 have h1:=Di i i (aaI _);have h2:=Di j j (aaI _);unfold pth at h;rw[h] at h1;exact h1.symm.trans h2
theorem Mv{t:Tr α}:Tr.get d (Tr.set d x t i) i=x:=Jg _
theorem sr{t:Tr α}(h:i≠j):Tr.get d (Tr.set d x t i) j=Tr.get d t j:=ze _ _ _ λ e=>h (Mu e)
theorem BU:Tr.get d (.lf:Tr α) i=d:=qX
theorem jb{t:Tr α}:Tr.get d (Tr.set d x t i) j=if i=j then x else Tr.get d t j:=by
 split
 ·rename_i e;subst e;exact Mv
 ·rename_i e;exact sr e
theorem Jh(y:α)(l:List α)(i:Nat)(t:Tr α):dE d (y::l) i t=dE d l (i+1) (Tr.set d y t i):=by
 rw[dE];split <;> rename_i h <;> rw[h]
theorem qY:∀ (l:List α) (i:Nat) (t:Tr α) (j:Nat),Tr.get d (dE d l i t) j=if i<=j then (if h:j-i<l.length then l[j-i] else Tr.get d t j) else Tr.get d t j
 | [],i,t,j=>by simp[dE]
 |y::l,i,t,j=>by
  rw[Jh,qY l,jb]
  by_cases h1:i=j
  ·subst h1;simp;intro h;omega
  ·by_cases h2:i<=j
   ·have h3:i+1<=j:=by omega
    have h4:j-i=(j-(i+1))+1:=by omega
    simp only[h1,h2,h3,if_true,if_false,h4,aaZ,Nat.add_lt_add_iff_right,ac7]
   ·have h3:¬ i+1<=j:=by omega
    simp[h1,h2,h3]
end tr
abbrev Nu:=Nat->Option (Nat×Nat)
def Nu.Le(ν ν':Nu):Prop:=∀h x,ν h=some x->ν' h=some x
theorem Nu.Le.refl(ν:Nu):ν.Le ν:=λ _ _ h=>h
theorem Nu.Le.trans{a b c:Nu}(h:a.Le b)(h':b.Le c):a.Le c:=λ _ _ e=>h' _ _ (h _ _ e)
def Nu.upd(ν:Nu)(h r K:Nat):Nu:=λ k=>if k=h then some (r,K) else ν k
theorem b6{ν:Nu}{h r:Nat}:ν.upd h r K h=some (r,K):=if_pos rfl
theorem eE{ν:Nu}{h r:Nat}(e:k≠h):ν.upd h r K k=ν k:=if_neg e
theorem jY{ν:Nu}{h r:Nat}(e:ν h=none):ν.Le (ν.upd h r K):=λ k x hx=>by
 rw[eE];exact hx;intro e';subst e';rw[e] at hx;cases hx
def cq:Value->Bool
 | .bool _=>true
 | .int _ _=>true
 | .float _ _=>true
 | .complex _ _ _=>true
 | .string _=>true
 | .pointer none=>true
 | .slice none _ _=>true
 | .map none=>true
 | .nilFunc=>true
 | .nilIface=>true
 |_=>false
inductive FnR(ν:Nu):Fn->Fn->Prop
 |func (f:FuncId):FnR ν (.func f) (.func f)
 |yield {l b K:Nat}:ν l=some (b,K)->FnR ν (.yield l) (.yield b)
def Tj(K c c':Nat):Prop:=(c<l9->c'=c)/\(l9<=c->c'+(c-l9)=K)
inductive VRi(ν:Nu):Value->Value->Prop
 |atom (v:Value):cq v=true->VRi ν v v
 |ptr {h b K:Nat} (o:Nat):ν h=some (b,K)->VRi ν (.pointer (some ⟨h,o,none⟩)) (.pointer (some ⟨b,o,none⟩))
 |slice {h b K c c':Nat} (o n:Nat):ν h=some (b,K)->Tj K c c'->VRi ν (.slice (some ⟨h,o,none⟩) n c) (.slice (some ⟨b,o,none⟩) n c')
 |map {h b K:Nat}:ν h=some (b,K)->VRi ν (.map (some h)) (.map (some b))
 |func {fn fn':Fn} {f f' c c':Array Value}:FnR ν fn fn'->f.size=f'.size->(∀ (i:Nat) (v v':Value),f[i]?=some v->f'[i]?=some v'->VRi ν v v')->c.size=c'.size->(∀ (i:Nat) (v v':Value),c[i]?=some v->c'[i]?=some v'->VRi ν v v')->VRi ν (.func fn f c) (.func fn' f' c')
 |iface {v v':Value} (t:TypeId):VRi ν v v'->VRi ν (.iface t v) (.iface t v')
 |agg {c c':Array Value}:c.size=c'.size->(∀ (i:Nat) (v v':Value),c[i]?=some v->c'[i]?=some v'->VRi ν v v')->VRi ν (.agg c) (.agg c')
 |tuple {c c':Array Value}:c.size=c'.size->(∀ (i:Nat) (v v':Value),c[i]?=some v->c'[i]?=some v'->VRi ν v v')->VRi ν (.tuple c) (.tuple c')
inductive LR(ν:Nu):List Value->List Value->Prop
 |nil:LR ν [] []
 |cons {v v':Value} {l l':List Value}:VRi ν v v'->LR ν l l'->LR ν (v::l) (v'::l')
section vr
variable {ν ν':Nu}
theorem FnR.mono{f f':Fn}(h:FnR ν f f')(hl:ν.Le ν'):FnR ν' f f':=by
 cases h with
 |func f=>exact .func f
 |yield h=>exact .yield (hl _ _ h)
theorem VRi.mono{v:Value}(h:VRi ν v v')(hl:ν.Le ν'):VRi ν' v v':=by
 induction h with
 |atom v h=>exact .atom v h
 |ptr o h=>exact .ptr o (hl _ _ h)
 |slice o n h c=>exact .slice o n (hl _ _ h) c
 |map h=>exact .map (hl _ _ h)
 |func hf e1 _ e2 _ Yj Yi=>exact .func (hf.mono hl) e1 Yj e2 Yi
 |iface t _ ih=>exact .iface t ih
 |agg e _ ih=>exact .agg e ih
 |tuple e _ ih=>exact .tuple e ih
theorem LR.mono{l:List Value}(h:LR ν l l')(hl:ν.Le ν'):LR ν' l l':=by
 induction h with
 |nil=>exact .nil
 |cons h _ ih=>exact .cons (h.mono hl) ih
theorem LR.length{l:List Value}(h:LR ν l l'):l'.length=l.length:=by
 induction h with
 |nil=>rfl
 |cons _ _ ih=>simp[ih]
theorem LR.get{l:List Value}(h:LR ν l l'){v:Value}(hv:l[i]?=some v):∃v',l'[i]?=some v'/\VRi ν v v':=by
 induction h generalizing i with
 |nil=>simp at hv
 |cons hd _ ih=>
  cases i with
  |zero=>simp at hv;subst hv;exact⟨_,rfl,hd⟩
  |succ i=>simp at hv;simpa using ih hv
theorem LR.of_get{l:List Value}(e:l.length=l'.length)(h:∀ (i:Nat) (v v':Value),l[i]?=some v->l'[i]?=some v'->VRi ν v v'):LR ν l l':=by
 induction l generalizing l' with
 |nil=>cases l' with
  |nil=>exact .nil
  |cons _ _=>simp at e
 |cons v l ih=>cases l' with
  |nil=>simp at e
  |cons v' l'=>exact .cons (h 0 v v' rfl rfl) (ih (by simpa using e) λ i u u' hu hu'=>h (i+1) u u' (by simpa using hu) (by simpa using hu'))
theorem LR.of_arr{c c':Array Value}(e:c.size=c'.size)(h:∀ (i:Nat) (v v':Value),c[i]?=some v->c'[i]?=some v'->VRi ν v v'):LR ν c.toList c'.toList :=
 .of_get (by simpa using e) λ i v v' h1 h2=>h i v v' (by simpa using h1) (by simpa using h2)
theorem LR.arr{l:List Value}(h:LR ν l l'):(⟨l⟩:Array Value).size=(⟨l'⟩:Array Value).size/\(∀ (i:Nat) (v v':Value),(⟨l⟩:Array Value)[i]?=some v->(⟨l'⟩:Array Value)[i]?=some v'->VRi ν v v'):=by
 refine⟨by simp[h.length],λ i v v' h1 h2=>?_⟩;obtain⟨u,hu,hr⟩:=h.get (i:=i) (v:=v) (by simpa using h1);have:u=v':=by
  have h2':l'[i]?=some v':=by simpa using h2
  rw[hu] at h2';simpa using h2'
 subst this;exact hr
theorem VRi.agg_of{l:List Value}(h:LR ν l l'):VRi ν (.agg ⟨l⟩) (.agg ⟨l'⟩):=.agg h.arr.1 h.arr.2
theorem VRi.tuple_of{l:List Value}(h:LR ν l l'):VRi ν (.tuple ⟨l⟩) (.tuple ⟨l'⟩):=.tuple h.arr.1 h.arr.2
theorem VRi.func_of{fn fn':Fn}{l c c':List Value}(hf:FnR ν fn fn')(h:LR ν l l')(k:LR ν c c'):VRi ν (.func fn ⟨l⟩ ⟨c⟩) (.func fn' ⟨l'⟩ ⟨c'⟩):=.func hf h.arr.1 h.arr.2 k.arr.1 k.arr.2
theorem VRi.undef:VRi ν undef undef:=.tuple rfl (by simp)
theorem LR.append{a a' b b':List Value}(h:LR ν a a')(k:LR ν b b'):LR ν (a++b) (a'++b'):=by
 induction h with
 |nil=>exact k
 |cons h _ ih=>exact .cons h ih
theorem VRi.plain_refl:∀ (v:Value),pl v=true->VRi ν v v:=by
 intro v;refine Value.rec (motive_1:=λ v=>pl v=true->VRi ν v v) (motive_2:=λ a=>Oi a=true->LR ν a.toList a.toList) (motive_3:=λ l=>yP l=true->LR ν l l)
  ?_ ?_ ?_ ?_ ?_ ?_ ?_ ?_ ?_ ?_ ?_ ?_ ?_ ?_ ?_ ?_ ?_ ?_ v
 case _=>exact λ b _=>.atom _ rfl
 case _=>exact λ b _ _=>.atom _ rfl
 case _=>exact λ b _ _=>.atom _ rfl
 case _=>exact λ b _ _ _=>.atom _ rfl
 case _=>exact λ b _=>.atom _ rfl
 case _=>intro a h;cases a with
  |none=>exact .atom _ rfl
  |some a=>simp[pl] at h
 case _=>intro a n c h;cases a with
  |none=>exact .atom _ rfl
  |some a=>simp[pl] at h
 case _=>intro a h;cases a with
  |none=>exact .atom _ rfl
  |some a=>simp[pl] at h
 case _=>intro a h;simp[pl] at h
 case _=>
  intro fn f c Yj Yi h;cases fn with
  |func g=>
   rw[pl] at h;split at h
   ·rename_i e;have:=VRi.func_of (FnR.func (ν:=ν) g) (Yj e) (Yi h);exact this
   ·cases h
  |_=>simp[pl] at h
 case _=>exact λ _=>.atom _ rfl
 case _=>intro t v ih h;exact .iface t (ih (by simpa [pl] using h))
 case _=>exact λ _=>.atom _ rfl
 case _=>intro c ih h;exact .agg_of (ih (by simpa [pl] using h))
 case _=>intro c ih h;exact .tuple_of (ih (by simpa [pl] using h))
 case _=>intro l ih h;exact ih (by simpa [Oi] using h)
 case _=>exact λ _=>.nil
 case _=>
  intro v l Yj Yi h;rw[yP] at h;split at h
  ·rename_i e;exact .cons (Yj e) (Yi h)
  ·cases h
theorem VRi.plain_eq{v:Value}(h:VRi ν v v')(hp:pl v=true):v'=v:=by
 have key:∀ (l l':List Value),LR ν l l'->(∀v∈l,∀v',VRi ν v v'->pl v=true->v'=v)->yP l=true->l'=l:=by
  intro l l' hl
  induction hl with
  |nil=>intros;rfl
  |cons hd _ ih=>
   intro hv hpl;rw[yP] at hpl;split at hpl
   ·rename_i e;rw[hv _ aaC _ hd e,ih (λ v hm=>hv v (aaD _ hm)) hpl]
   ·cases hpl
 have arr:∀ (c c':Array Value),c.size=c'.size->(∀ (i:Nat) (v v':Value),c[i]?=some v->c'[i]?=some v'->VRi ν v v')->(∀ (i:Nat) (v v':Value),c[i]?=some v->c'[i]?=some v'->pl v=true->v'=v)->Oi c=true->c'=c:=by
  intro c c' e h1 h2 hp;obtain⟨l⟩:=c;obtain⟨l'⟩:=c';have hl:=LR.of_arr e h1;rw[Oi] at hp;have IS:∀v∈l,pl v=true:=by
   clear h1 h2 e hl
   induction l with
   |nil=>intro v hv;cases hv
   |cons u l ih=>
    rw[yP] at hp;split at hp
    ·rename_i eu;intro v hv;rcases abL.1 hv with rfl|hv
     ·exact eu
     ·exact ih hp v hv
    ·cases hp
  congr 1;apply acg;intro i;cases hi:l[i]? with
  |none=>
   have e':l.length=l'.length:=by simpa using e
   rw[List.getElem?_eq_none_iff] at hi ⊢;omega
  |some v=>
   obtain⟨v',h3,h4⟩:=hl.get hi;simp only at h3;rw[h3,h2 i v v' (by simpa using hi) (by simpa using h3) (IS v (go hi))]
 induction h with
 |atom v h=>rfl
 |ptr o h=>simp[pl] at hp
 |slice o n h c=>simp[pl] at hp
 |map h=>simp[pl] at hp
 |func hf e1 h1 e2 h2 Yj Yi=>
  cases hf with
  |func g=>
   rw[pl] at hp;split at hp
   ·rename_i e;rw[arr _ _ e1 h1 Yj e,arr _ _ e2 h2 Yi hp]
   ·cases hp
  |yield _=>simp[pl] at hp
 |iface t _ ih=>rw[ih (by simpa [pl] using hp)]
 |agg e h1 ih=>rw[arr _ _ e h1 ih (by simpa [pl] using hp)]
 |tuple e h1 ih=>rw[arr _ _ e h1 ih (by simpa [pl] using hp)]
end vr
theorem su{β γ:Type}(s:Sem α)(f:α->Sem β)(g:β->Sem γ):(s.bind f).bind g=s.bind λ x=>(f x).bind g:=by
 induction s <;> simp only[Sem.bind] <;> first|rfl|(congr 1;funext x;rename_i ih;exact ih x)|(rename_i ih;rw[ih])
theorem tP(s:Sem α):s.bind .pure=s:=by
 induction s <;> simp only[Sem.bind] <;> first|rfl|(congr 1;funext x;rename_i ih;exact ih x)|(rename_i ih;rw[ih])
theorem jc:LawfulMonad Sem:=LawfulMonad.mk' (m:=Sem)
 (id_map:=λ x=>tP x) (pure_bind:=λ _ _=>rfl) (bind_assoc:=λ x f g=>su x f g)
section lists
variable {ν:Nu} {P:Program}
theorem dU(l:List Value):gv l=l.length:=by induction l with
 |nil=>rfl
 |cons v l ih=>simp[gv,ih]
theorem gx(v:Value):hO v=v.cells.toList:=by cases v <;> rfl
theorem ky{v v':Value}(h:VRi ν v v'):LR ν (hO v) (hO v'):=by
 cases h with
 |atom v h=>cases v <;> first|exact .cons (.atom _ h) .nil|simp[cq] at h
 |ptr o h=>exact .cons (.ptr o h) .nil
 |slice o n h c=>exact .cons (.slice o n h c) .nil
 |map h=>exact .cons (.map h) .nil
 |func hf e1 h1 e2 h2=>exact .cons (.func hf e1 h1 e2 h2) .nil
 |iface t h=>exact .cons (.iface t h) .nil
 |agg e h=>exact .of_arr e h
 |tuple e h=>exact .cons (.tuple e h) .nil
theorem kz(l:List Value)(i:Nat):ox l i=l[i]?:=by
 induction l generalizing i with
 |nil=>rfl
 |cons v l ih=>cases i with
  |zero=>rfl
  |succ i=>simpa [ox] using ih i
theorem zf(l:List Value)(i:Nat):uI l i=l.drop i:=by
 induction l generalizing i with
 |nil=>simp[uI]
 |cons v l ih=>cases i with
  |zero=>rfl
  |succ i=>simpa [uI] using ih i
theorem zg(l:List Value)(i:Nat):uJ l i=l.take i:=by
 induction l generalizing i with
 |nil=>simp[uJ]
 |cons v l ih=>cases i with
  |zero=>rfl
  |succ i=>simpa [uJ] using ih i
theorem LR.drop{l:List Value}(h:LR ν l l')(n:Nat):LR ν (l.drop n) (l'.drop n):=by
 induction h generalizing n with
 |nil=>simpa using LR.nil
 |cons h1 h2 ih=>cases n with
  |zero=>exact .cons h1 h2
  |succ n=>simpa using ih n
theorem LR.take{l:List Value}(h:LR ν l l')(n:Nat):LR ν (l.take n) (l'.take n):=by
 induction h generalizing n with
 |nil=>simpa using LR.nil
 |cons h1 h2 ih=>cases n with
  |zero=>simpa using LR.nil
  |succ n=>simpa using LR.cons h1 (ih n)
theorem uO(h:LR ν vs O_):∀ {l l' r:List Value},LR ν l l'->kU vs l=some r->∃r',kU O_ l'=some r'/\LR ν r r':=by
 induction h with
 |nil=>intro l l' r hl e;rw[kU] at e;cases e;exact⟨_,rfl,hl⟩
 |cons hv _ ih=>
  intro l l' r hl e;cases hl with
  |nil=>simp[kU] at e
  |cons h1 h2=>
   rw[kU] at e;split at e
   ·rename_i r0 hr;cases e;obtain⟨r1,e1,e2⟩:=ih h2 hr;exact⟨_,by rw[kU,e1],.cons hv e2⟩
   ·cases e
theorem FG(h:LR ν vs O_):∀ {l l' r:List Value} (i:Nat),LR ν l l'->fc vs l i=some r->∃r',fc O_ l' i=some r'/\LR ν r r':=by
 intro l l' r i hl
 induction hl generalizing i r with
 |nil=>
  intro e;cases i with
  |zero=>exact uO h .nil e
  |succ i=>simp[fc] at e
 |cons h1 h2 ih=>
  intro e;cases i with
  |zero=>exact uO h (.cons h1 h2) e
  |succ i=>
   rw[fc] at e;split at e
   ·rename_i r0 hr;cases e;obtain⟨r1,e1,e2⟩:=ih i hr;exact⟨_,by rw[fc];simp only[e1],.cons h1 e2⟩
   ·cases e
inductive PR(ν:Nu):List (Nat×Value)->List (Nat×Value)->Prop
 |nil:PR ν [] []
 |cons {v v':Value} {l l':List (Nat×Value)} (i:Nat):VRi ν v v'->PR ν l l'->PR ν ((i,v)::l) ((i,v')::l')
theorem pE{place:Nat->Option (Nat×Nat)}(h:PR ν ps Yc):∀ {l l' r:List Value},LR ν l l'->kV place ps l=some r->∃r',kV place Yc l'=some r'/\LR ν r r':=by
 induction h with
 |nil=>intro l l' r hl e;rw[kV] at e;cases e;exact⟨_,rfl,hl⟩
 |cons i hv _ ih=>
  intro l l' r hl e;rw[kV] at e;split at e
  ·rename_i off k hp;split at e
   ·cases e
   ·rename_i hb;split at e
    ·rename_i l1 ZX;have hc:=ky hv;obtain⟨l2,e1,e2⟩:=FG hc off hl ZX;obtain⟨r',e3,e4⟩:=ih e2 e;refine⟨r',?_,e4⟩;rw[kV,hp];simp only[e1,e3];rw[dU] at hb ⊢;rw[hc.length,hb]
    ·cases e
  ·cases e
theorem uP(l:List Value):kU [] l=some l:=by cases l <;> rfl
theorem uQ{l r:List Value}(h:fc [] l i=some r):r=l:=by
 induction l generalizing i r with
 |nil=>cases i with
  |zero=>rw[fc] at h;simp only[uP] at h;cases h;rfl
  |succ i=>simp[fc] at h
 |cons x l ih=>cases i with
  |zero=>rw[fc] at h;simp only[uP] at h;cases h;rfl
  |succ i=>
   rw[fc] at h;split at h
   ·rename_i l1 hl;cases h;rw[ih hl]
   ·cases h
theorem sw{v:Value}{l r:List Value}(h:fc (v::vs) l i=some r):i<l.length/\fc vs (l.set i v) (i+1)=some r:=by
 induction l generalizing i r with
 |nil=>cases i <;> simp[fc,kU] at h
 |cons x l ih=>cases i with
  |zero=>
   rw[fc] at h;simp only[kU] at h;split at h
   ·rename_i l1 hl;cases h;refine⟨by simp,?_⟩;simp only[List.set_cons_zero];rw[fc];cases l with
    |nil=>rw[fc];simp only[hl]
    |cons y l=>rw[fc];simp only[hl]
   ·cases h
  |succ i=>
   rw[fc] at h;split at h
   ·rename_i l1 hl;cases h;obtain⟨h1,h2⟩:=ih hl;refine⟨by simp;omega,?_⟩;simp only[List.set_cons_succ];rw[fc];simp only[h2]
   ·cases h
theorem FH{l r:List Value}(h:fc vs l i=some r):r.length=l.length/\(vs≠[]->i+vs.length<=l.length):=by
 induction vs generalizing l i with
 |nil=>rw[uQ h];simp
 |cons v vs ih=>
  obtain⟨h1,h2⟩:=sw h;obtain⟨h3,h4⟩:=ih h2;rw[ack] at h3 h4;refine⟨h3,λ _=>?_⟩;cases vs with
  |nil=>simp;omega
  |cons u vs=>have:=h4 (by simp);simp at this ⊢;omega
theorem BV{l r:List Value}(h:fc vs l (off+k)=some r):(vs.zipIdx k).foldl (λ (cs:Array Value) p=>cs.setIfInBounds (off+p.2) p.1) ⟨l⟩=⟨r⟩:=by
 induction vs generalizing l k with
 |nil=>rw[uQ h];rfl
 |cons v vs ih=>
  obtain⟨h1,h2⟩:=sw h;rw[List.zipIdx_cons,List.foldl_cons];have:=ih (l:=l.set (off+k) v) (k:=k+1) h2;simpa using this
theorem kB{place:Nat->Option (Nat×Nat)}:∀ {ps:List (Nat×Value)} {l r:List Value},kV place ps l=some r->Instr.fill place ⟨l⟩ ps=some ⟨r⟩
 | [],l,r,h=>by rw[kV] at h;cases h;rfl
 | (i,v)::ps,l,r,h=>by
  rw[kV] at h;split at h
  ·rename_i off k hp;split at h
   ·cases h
   ·rename_i hs;split at h
    ·rename_i l1 ZX;have Ug:(hO v).length=k+1:=by rw[dU] at hs;exact abd hs
     have L_:v.cells.size=k+1:=by rw[<- Ug,gx];simp
     have hbd:=(FH ZX).2 (by intro e;rw[e] at Ug;simp at Ug);rw[Instr.fill,hp];simp only;rw[if_neg (by rw[L_];simp;omega)];have:=BV (k:=0) (off:=off) (by simpa using ZX);have e2:(Array.foldl (λ (cs:Array Value) (x:Value×Nat)=>cs.setIfInBounds (off+x.2) x.1) ⟨l⟩ v.cells.zipIdx)=⟨l1⟩:=by
      rw[<- adN,Array.toList_zipIdx,<- gx];exact this
     have e3:=kB (r:=r) h;rw[<- e3,<- e2]
    ·cases h
  ·cases h
end lists
structure TRel(ν:Nu)(N:Nat)(T:Tr Value)(tm:Array Value):Prop where
 size:tm.size=N
 get:∀t,t<N->∃v',tm[t]?=some v'/\VRi ν (cK T t) v'
 out:∀t,N<=t->cK T t=undef
section fr
variable {ν ν':Nu} {P:Program} {G N:Nat} {T T':Tr Value} {a:Act}
theorem TRel.mono(h:TRel ν N T tm)(hl:ν.Le ν'):TRel ν' N T tm :=
 ⟨h.size,λ t ht=>let ⟨v',e,r⟩:=h.get t ht;⟨v',e,r.mono hl⟩,h.out⟩
theorem TRel.set(h:TRel ν N T tm){d:Nat}{v:Value}(hd:d<N)(hv:VRi ν v v'):TRel ν N (tK T d v) (tm.setIfInBounds d v'):=by
 refine⟨by simp[h.size],λ t ht=>?_,λ t ht=>?_⟩
 ·unfold cK tK;rw[jb]
  by_cases e:d=t
  ·subst e;refine⟨v',?_,by simpa using hv⟩;rw[lv (by rw[h.size];exact hd)]
  ·rw[if_neg e,vo e];exact h.get t ht
 ·unfold cK tK;rw[sr (by omega)];exact h.out t ht
theorem TRel.put(h:TRel ν N T a.tmps){dst:Option Tmp}{v:Value}(hv:VRi ν v v')(hp:fm N dst v T=some T'):TRel ν N T' (a.put dst v').tmps:=by
 unfold fm at hp;split at hp
 ·cases hp;exact h
 ·rename_i d;split at hp
  ·rename_i hd;cases hp;exact h.set (Nat.lt_of_lt_of_le (Nat.lt_of_succ_le (aaH hd)) (aaI _)) hv
  ·cases hp
theorem fJ(a:Act)(dst:Option Tmp)(v:Value):(a.put dst v).defers=a.defers:=by cases dst <;> rfl
structure FE(ν:Nu)(G N:Nat)(T:Tr Value)(a:Act):Prop where
 t:TRel ν N T a.tmps
 g:∀k,k<G->∃K,ν k=some (k,K)
theorem dF{a b:Nat}(h:Nat.blt a b=true):a<b:=aaH h
theorem FE.ael(h:FE ν G N T a){x:Operand}(hx:SA G x=true):VRi ν (ael T x) (a.eval x):=by
 cases x with
 |tmp t=>
  show VRi ν (cK T t) (a.eval (.tmp t));unfold Act.eval;simp only;rcases aa9 t N with ht|ht
  ·obtain⟨v',e,r⟩:=h.t.get t ht;simpa [e] using r
  ·rw[h.t.out t ht,aaA,ac6 (by rw[h.t.size];exact ht)];exact VRi.undef
 |const v=>exact .plain_refl _ hx
 |global g=>
  obtain⟨K,e⟩:=h.g g (dF hx);exact .ptr 0 e
 |func f=>exact .func (.func f) rfl (by simp) rfl (by simp)
theorem sx{l:List Operand}(h:tL G l=true):∀x∈l,SA G x=true:=by
 induction l with
 |nil=>intro x hx;cases hx
 |cons y l ih=>
  rw[tL] at h;split at h
  ·rename_i e;intro x hx;rcases abL.1 hx with rfl|hx
   ·exact e
   ·exact ih h x hx
  ·cases h
def OK(ν:Nu)(T:Tr Value)(a:Act)(l:List Operand):Prop:=∀x∈l,VRi ν (Go.Proofs.YtjokannbjmndfaaGreatDoor.ael T x) (a.eval x)
theorem FE.ok(h:FE ν G N T a){l:List Operand}(hl:tL G l=true):OK ν T a l:=λ x hx=>h.ael (sx hl x hx)
theorem Mw{s:Sem α}:∀ {x:α},yQ P s=some x->∀w,s.run P w=.ok x w:=by
 induction s with
 |pure a=>intro x h w;rw[yQ] at h;cases h;rfl
 |program k ih=>intro x h w;rw[yQ] at h;rw[Sem.run];exact ih _ h w
 |mark m k ih=>intro x h w;rw[yQ] at h;rw[Sem.run];exact ih h w
 |_=>intro x h;simp[yQ] at h
theorem BW{l:List Operand}(h:wu T l=true):∀x∈l,pl (Go.Proofs.YtjokannbjmndfaaGreatDoor.ael T x)=true:=by
 induction l with
 |nil=>intro x hx;cases hx
 |cons y l ih=>
  rw[wu] at h;split at h
  ·rename_i e;intro x hx;rcases abL.1 hx with rfl|hx
   ·exact e
   ·exact ih h x hx
  ·cases h
theorem pF{v:Value}(h:gw P T o=some v){l:List Operand}(hl:bV o.op=some l)(iF:OK ν T a l):∃v',VRi ν v v'/\∀w,(execOp a.eval o).run P w=.ok (.value v') w:=by
 unfold gw at h;rw[hl] at h;simp only at h;split at h
 case h_2=>cases h
 rename_i hp;split at h
 case h_2=>cases h
 rename_i u hr;split at h
 case h_2=>cases h
 rename_i hv;cases h;obtain⟨k1,k2⟩:=t7 hl;have e:execOp a.eval o=execOp (Go.Proofs.YtjokannbjmndfaaGreatDoor.ael T) o:=execOp_congr o k2 λ x hx=>(iF x (k1 x hx)).plain_eq (BW hp x (k1 x hx));exact⟨v,.plain_refl _ hv,λ w=>by rw[e];exact Mw hr w⟩
theorem Ji{op:BinOp}{ty:TypeId}{x y:Operand}{k:IntKind}{m n:Int}{r:Bool}(ho:o.op=.binOp op t x y ty)(hx:ρ x=.int k m)(hy:ρ y=.int k n)(h:I2 op m n=some r):(execOp ρ o).run P w=.ok (.value (.bool r)) w:=by
 unfold I2 at h;split at h <;> first|(cases h;done)|skip
 all_goals
  cases h;simp[execOp,ho,hx,hy,eqGuard,Go.binOp,Op.intCmp,pure,bind,Sem.bind,Sem.run]
theorem zh(h:yR P t=true)(w:World):(isAgg t).run P w=.ok false w:=by
 unfold yR at h;split at h
 ·cases h
 ·cases h
 ·rename_i d h1 h2 hu;unfold isAgg;rw[abg,aE hu];simp only[abf];cases d <;> first|rfl|exact(h1 _ hu).elim|exact(h2 _ _ hu).elim
 ·cases h
theorem zi(h:BN P t=some k):(∀w,(isAgg t).run P w=.ok true w)/\(∀w,(sizeOf t).run P w=.ok k w)/\eZ P t=some k:=by
 unfold BN at h;split at h
 case h_3=>cases h
 all_goals
  rename_i hu;rw[acL] at h;obtain⟨i,hi,rfl⟩:=h;refine⟨λ w=>?_,λ w=>?_,by unfold eZ;rw[hi];rfl⟩
  ·unfold isAgg;rw[abg,aE hu];rfl
  ·unfold sizeOf;rw[abg,cL hi];rfl
theorem dX(h:eZ P t=some k)(w:World):(sizeOf t).run P w=.ok k w:=by
 unfold eZ at h;rw[acL] at h;obtain⟨i,hi,rfl⟩:=h;unfold sizeOf;rw[abg,cL hi];rfl
theorem uR{cs:Array Value}{v:Value}(h:oy P t cs.toList off=some v)(w:World):(part t cs off).run P w=.ok v w:=by
 unfold oy at h;split at h
 ·rename_i h1;rw[kz] at h;unfold part;rw[abg,zh h1];have h2:cs[off]?=some v:=by simpa using h
  simp[h2]
 ·split at h
  ·rename_i k hk;cases h;obtain⟨h1,h2,h3⟩:=zi hk;unfold part;rw[abg,h1];simp only[abf,if_true,abg,h2];rw[zf,zg];have:cs.extract off (off+k)=⟨(cs.toList.drop off).take k⟩:=by
    apply Array.ext';simp
   rw[this];rfl
  ·cases h
theorem uS{l:List Value}{v:Value}(hl:LR ν l l')(h:oy P t l off=some v):∃v',oy P t l' off=some v'/\VRi ν v v':=by
 unfold oy at h ⊢;split at h
 ·rename_i h1;rw[kz] at h;obtain⟨v',e,r⟩:=hl.get h;exact⟨v',by simpa [kz] using e,r⟩
 ·rename_i h1;split at h
  ·rename_i k hk;cases h;refine⟨.agg ⟨uJ (uI l' off) k⟩,rfl,?_⟩;simp only[zg,zf];exact .agg_of ((hl.drop _).take _)
  ·cases h
theorem sy{ps:List (Nat×Operand)}(h:OK ν T a (ps.map (·.2))):PR ν (wv T ps) (ps.map λ p=>(p.1,a.eval p.2)):=by
 induction ps with
 |nil=>exact .nil
 |cons p ps ih=>exact .cons _ (h _ (by simp)) (ih λ x hx=>h x (aaD _ hx))
theorem lG{l:List Operand}(h:OK ν T a l):LR ν (nj T l) (l.map a.eval):=by
 induction l with
 |nil=>exact .nil
 |cons x l ih=>exact .cons (h _ aaC) (ih λ y hy=>h y (aaD _ hy))
theorem jZ{z:List Value}(h:kW P t=some z):∃zv,(∀w,(zeroValue t).run P w=.ok zv w)/\zv.cells=⟨z⟩/\LR ν z z/\(∃i,P.info? t=some i/\i.zero=some zv):=by
 unfold kW at h;split at h
 case h_2=>cases h
 rename_i i hi;split at h
 case h_2=>cases h
 rename_i zv hz;split at h
 case h_2=>cases h
 rename_i hp;cases h;refine⟨zv,λ w=>?_,by rw[gx],ky (.plain_refl _ hp),i,hi,hz⟩;unfold zeroValue;rw[abg,cL hi];simp only[abf,hz];rfl
theorem mP:∀ {fs:List Field} {l:List (Nat×Nat)},jU P fs=some l->∀w,((fs.mapM λ f=>(do pure (f.offset,<- sizeOf f.type):Sem (Nat×Nat)))).run P w=.ok l w
 | [],l,h,w=>by rw[jU] at h;cases h;rfl
 |f::fs,l,h,w=>by
  rw[jU] at h;split at h
  ·rename_i k l0 h1 h2;cases h
   haveI:=jc
   rw[aey,abg,abg,dX h1];have:=mP h2 w;simp only[b7,abf];rw[abg,this];rfl
  ·cases h
theorem Mx(l:List (Nat×Nat))(i:Nat):I4 l i=l[i]?:=by
 induction l generalizing i with
 |nil=>rfl
 |cons v l ih=>cases i with
  |zero=>rfl
  |succ i=>simpa [I4] using ih i
theorem FI{v:Value}(h:BO P t ps=some v)(hr:PR ν ps Yc):∃v',VRi ν v v'/\∀w,(Instr.build t ⟨Yc⟩).run P w=.ok v' w:=by
 unfold BO at h;split at h
 case h_2=>cases h
 rename_i z hz;obtain⟨zv,h1,h2,h3,-⟩:=jZ (ν:=ν) hz;split at h
 ·rename_i fs hu;split at h
  case h_2=>cases h
  rename_i pls hs;split at h
  case h_2=>cases h
  rename_i l hf;cases h;obtain⟨l',e1,e2⟩:=pE hr h3 hf;refine⟨.agg ⟨l'⟩,.agg_of e2,λ w=>?_⟩;have h4:=mP hs w
  haveI:=jc
  unfold Instr.build;rw[abg,h1];simp only[abf];rw[abg,aE hu];simp only[abf];rw[abg,Array.mapM_eq_mapM_toList];have h5:((List.toArray <$> (fs.toList.mapM λ f=>(do pure (f.offset,<- sizeOf f.type):Sem (Nat×Nat)))):Sem (Array (Nat×Nat))).run P w=.ok ⟨pls⟩ w:=by
   rw[<- bind_pure_comp,abg,h4];rfl
  rw[h5];simp only[abf];have h6:=kB e1;have h7:(λ i=>(⟨pls⟩:Array (Nat×Nat))[i]?)=I4 pls:=by funext i;rw[Mx];simp
  rw[h2,h7,h6];rfl
 ·rename_i n el hu;split at h
  case h_2=>cases h
  rename_i k hk;split at h
  case h_2=>cases h
  rename_i l hf;cases h;obtain⟨l',e1,e2⟩:=pE hr h3 hf;refine⟨.agg ⟨l'⟩,.agg_of e2,λ w=>?_⟩;unfold Instr.build;rw[abg,h1];simp only[abf];rw[abg,aE hu];simp only[abf];rw[abg,dX hk];simp only[abf];have h6:=kB e1;rw[h2,h6];rfl
 ·cases h
theorem BX{x:Operand}{ad:Addr}(ho:o.op=.fieldAddr t x j)(hx:ρ x=.pointer (some ad))(hf:yS P t j=some (k,ft)):(execOp ρ o).run P w=.ok (.value (.pointer (some (ad.add k)))) w:=by
 unfold yS at hf;split at hf
 case h_2=>cases hf
 rename_i fs hu;split at hf
 case h_2=>cases hf
 rename_i f hj;split at hf
 case h_2=>cases hf
 rename_i inf hi;split at hf
 ·cases hf
 rename_i m hm;cases hf;have h1:=λ W=>aE hu W;have h2:=λ W=>cL hi W;simp[execOp,ho,Instr.fieldAt,Instr.sureAddr,hx,abg,h1,hj,fieldPlace,sizeOf,h2,hm]
theorem BZ{x:Operand}{cs:Array Value}{v:Value}(ho:o.op=.field t x j)(hx:ρ x=.agg cs)(hf:yS P t j=some (k,ft))(hp:oy P ft cs.toList k=some v):(execOp ρ o).run P w=.ok (.value v) w:=by
 unfold yS at hf;split at hf
 case h_2=>cases hf
 rename_i fs hu;split at hf
 case h_2=>cases hf
 rename_i f hj;split at hf
 case h_2=>cases hf
 rename_i inf hi;split at hf
 ·cases hf
 rename_i m hm;cases hf;have h1:=λ W=>aE hu W;have h2:=uR hp;simp[execOp,ho,Instr.field,asAgg,hx,abg,h1,hj,h2]
theorem oA(h o k:Nat):BP ⟨h,o,none⟩ k=⟨h,o+k,none⟩:=by cases k <;> rfl
theorem nq(h o k:Nat):(⟨h,o,none⟩:Addr).add k=⟨h,o+k,none⟩:=by
 unfold Addr.add;split
 ·rename_i e;subst e;rfl
 ·rfl
theorem nr{v:Value}{n:Nat}(h:Ly v=some n)(hr:VRi ν v v'):∃k,v'=.int k (n:Int):=by
 unfold Ly at h;split at h
 ·rename_i k m;cases h;cases hr;exact⟨k,rfl⟩
 ·cases h
end fr
def aau:=@VRi.undef
end Go.Proofs.YtjokannbjmndfaaGreatDoor
