import Derived.Test.YtghjbimijeinfaaGreatDoorY30
import Derived.Test.YtghjbimijeinfaaGreatDoorY37
set_option maxHeartbeats 4000000
set_option maxRecDepth 100000
set_option linter.unusedSimpArgs false
set_option linter.unusedVariables false
namespace Go.Proofs.YtghjbimijeinfaaGreatDoor
open Go.RowKit
noncomputable section
def rf (ν:Nu) (H:AH) (w:World) (tabs:List PB) (n:Nat):HL :=
 ((List.range n).filter λ h=>(bu H h).isSome && !(tabs.any λ p=>p.1 == h)).map λ h=>(lB ν h,.obj ((w.heap[lB ν h]?).getD default))
structure HeapT (ν:Nu) (H:AH) (tabs:List PB) (G n:Nat) (T:HL):Prop where
 glb:Glb ν G
 new:∀ h,n <= h -> ν h=none
 tab:∀ p ∈ tabs,ν p.1=some (p.1,p.2.1.length)
 rel:∀ F w,Rel (tabs.map fS++T++F) w -> HR ν H F w
section
variable {tabs:List PB} {G:Nat} {F:HL} {w:World}
theorem Je (ht:oQ G tabs=true) (hnd:(tabs.map (·.1)).Nodup):∀ p ∈ tabs,od tabs G p.1=some (p.1,p.2.1.length):=λ p hp=>by
 have hlt:=(fd ht p hp).1
 simp only [od,if_pos hlt]
 congr 2
 cases hf:tabs.find? (λ q=>q.1 == p.1) with
 | none=>exact absurd (List.find?_eq_none.1 hf p hp) (by simp)
 | some q =>
  obtain ⟨hq,hq2⟩:=lC hf
  have:q=p:=my hnd hp hq hq2
  simp [this]
theorem xf {ν:Nu} {H:AH} {n:Nat} (hH:HR ν H F w) (hc:qS H tabs=true) (hpl:∀ p ∈ tabs,rH p.2.1=true) (hν:∀ p ∈ tabs,ν p.1=some (p.1,p.2.1.length)) (hnd:(tabs.map (·.1)).Nodup) (hF:(F.map (·.1)).Nodup) :
  Rel (tabs.map fS++rf ν H w tabs n++F) w:=by
 have htab:∀ p ∈ tabs,w.heap[p.1]?=some (fS p).2.den /\ ∃ b,bu H p.1=some b:=λ p hp=>un hH (lD hc p hp) (hpl p hp) (hν p hp)
 have hblk:∀ h,(bu H h).isSome=true -> ∃ K b o,ν h=some (lB ν h,K) /\ bu H h=some b /\ w.heap[lB ν h]?=some o:=λ h hh=>by
  obtain ⟨b,hb⟩:=Option.isSome_iff_exists.1 hh
  obtain ⟨r,K,o,h1,h2,h3⟩:=hH.blk h b hb
  have e:lB ν h=r:=by simp [lB,h1]
  exact ⟨K,b,o,by rw [e];exact h1,hb,by rw [e];exact h2⟩
 refine ⟨λ x hx=>?_,?_⟩
 ·rcases List.mem_append.1 hx with hx | hx
  ·rcases List.mem_append.1 hx with hx | hx
   ·obtain ⟨p,hp,rfl⟩:=List.mem_map.1 hx
    exact (htab p hp).1
   ·obtain ⟨h,hh,rfl⟩:=List.mem_map.1 hx
    have h2:=(List.mem_filter.1 hh).2
    rw [Bool.and_eq_true] at h2
    obtain ⟨K,b,o,_,_,e⟩:=hblk h h2.1
    show w.heap[lB ν h]?=some ((w.heap[lB ν h]?).getD default)
    rw [e];rfl
  ·exact hH.frm x hx
 ·-- the handles
  have hs:∀ h ∈ tabs.map (·.1)++(List.range n).filter (λ h=>(bu H h).isSome && !(tabs.any λ p=>p.1 == h)),(bu H h).isSome=true:=λ h hh=>by
   rcases List.mem_append.1 hh with hh | hh
   ·obtain ⟨p,hp,rfl⟩:=List.mem_map.1 hh
    obtain ⟨_,b,hb⟩:=htab p hp
    rw [hb];rfl
   ·have h2:=(List.mem_filter.1 hh).2
    rw [Bool.and_eq_true] at h2
    exact h2.1
  have hnd2:(tabs.map (·.1)++(List.range n).filter (λ h=>(bu H h).isSome && !(tabs.any λ p=>p.1 == h))).Nodup:=by
   refine List.nodup_append.2 ⟨hnd,(List.nodup_range).sublist List.filter_sublist,λ a ha b hb e=>?_⟩
   subst e
   have h2:=(List.mem_filter.1 hb).2
   rw [Bool.and_eq_true] at h2
   obtain ⟨p,hp,e⟩:=List.mem_map.1 ha
   have h3:(tabs.any λ p=>p.1 == a)=true:=List.any_eq_true.2 ⟨p,hp,by simp [e]⟩
   rw [h3] at h2
   exact absurd h2.2 (by decide)
  have e1:(tabs.map fS++rf ν H w tabs n).map (·.1)=(tabs.map (·.1)++(List.range n).filter (λ h=>(bu H h).isSome && !(tabs.any λ p=>p.1 == h))).map (lB ν):=by
   unfold rf
   simp only [List.map_append,List.map_map]
   congr 1
   apply List.map_congr_left
   intro p hp
   simp [fS,lB,hν p hp]
  rw [List.map_append,List.nodup_append,e1]
  refine ⟨?_,hF,λ a ha b hb=>?_⟩
  ·rw [List.Nodup,List.pairwise_map]
   refine List.pairwise_iff_forall_sublist.2 λ {a b} hsb=>?_
   obtain ⟨K1,b1,_,x1,x2,_⟩:=hblk a (hs a (hsb.subset (by simp)))
   obtain ⟨K2,b2,_,y1,y2,_⟩:=hblk b (hs b (hsb.subset (by simp)))
   intro e
   have hab:a=b:=hH.inj _ _ _ _ _ _ _ x2 y2 x1 (by rw [e];exact y1)
   have:=hnd2.sublist hsb
   simp [hab] at this
  ·obtain ⟨h,hh,rfl⟩:=List.mem_map.1 ha
   obtain ⟨x,hx,rfl⟩:=List.mem_map.1 hb
   obtain ⟨K,b,_,g1,g2,_⟩:=hblk h (hs h hh)
   exact (hH.apt _ _ _ _ g2 g1 x hx).symm
theorem LA {ν:Nu} {H:AH} {n:Nat} (hH:HR ν H F w) (hG:Glb ν G) (hnew:∀ h,n <= h -> ν h=none) (hν:∀ p ∈ tabs,ν p.1=some (p.1,p.2.1.length)) (htab:∀ p ∈ tabs,w.heap[p.1]?=some (fS p).2.den):HeapT ν H tabs G n (rf ν H w tabs n):=by
 refine ⟨hG,hnew,hν,λ F2 w2 hR=>?_⟩
 have key:∀ h b r K,bu H h=some b -> ν h=some (r,K) -> ∃ x,x ∈ tabs.map fS++rf ν H w tabs n /\ x.1=r /\ w.heap[r]?=some x.2.den:=λ h b r K hb h1=>by
  obtain ⟨r',K',o,h2,h3,_⟩:=hH.blk h b hb
  rw [h1] at h2
  cases h2
  by_cases ht:(tabs.any λ p=>p.1 == h)=true
  ·obtain ⟨p,hp,e⟩:=List.any_eq_true.1 ht
   have e:p.1=h:=by simpa using e
   subst e
   have h4:=hν p hp
   rw [h1] at h4
   cases h4
   exact ⟨fS p,List.mem_append_left _ (List.mem_map.2 ⟨p,hp,rfl⟩),rfl,htab p hp⟩
  ·have hlt:h < n:=by
    rcases Nat.lt_or_ge h n with h4 | h4
    ·exact h4
    ·rw [hnew h h4] at h1;cases h1
   have en:lB ν h=r:=by simp [lB,h1]
   refine ⟨(lB ν h,.obj ((w.heap[lB ν h]?).getD default)),List.mem_append_right _ (List.mem_map.2 ⟨h,List.mem_filter.2 ⟨List.mem_range.2 hlt,?_⟩,rfl⟩),en,?_⟩
   ·rw [hb,Bool.eq_false_iff.2 ht];rfl
   ·show _=some ((w.heap[lB ν h]?).getD default)
    rw [en,h3];rfl
 refine ⟨λ h b hb=>?_,hH.inj,λ x hx=>hR.holds x (List.mem_append_right _ hx),λ h b r K hb h1 x hx e=>?_⟩
 ·obtain ⟨r,K,o,h1,h2,h3⟩:=hH.blk h b hb
  obtain ⟨x,hx,rfl,e⟩:=key h b r K hb h1
  refine ⟨_,K,o,h1,?_,h3⟩
  rw [hR.holds x (List.mem_append_left _ hx),<- e,h2]
 ·obtain ⟨y,hy,rfl,_⟩:=key h b r K hb h1
  have hn:=hR.nodup
  rw [List.map_append,List.nodup_append] at hn
  exact hn.2.2 y.1 (List.mem_map.2 ⟨y,hy,rfl⟩) x.1 (List.mem_map.2 ⟨x,hx,rfl⟩) e.symm
end
def jM:Value -> Nat
 | .int .i64 _=>0
 | .string _=>1
 | .slice _ _ _=>2
 | _=>3
theorem Gt (ν:Nu) (v:Value):jM (kr ν v)=jM v:=by
 cases v with
 | pointer a=>cases a <;> rfl
 | slice a n c=>cases a <;> rfl
 | map r=>cases r <;> rfl
 | _=>rfl
def dk:List Value -> List Nat
 | []=>[]
 | v :: l=>jM v :: dk l
theorem oq (ν:Nu):∀ l,dk (qQ ν l)=dk l
 | []=>rfl
 | v :: l=>by rw [qQ,dk,dk,Gt,oq ν l]
def ze:List Nat -> List Nat -> Bool
 | [],[]=>true
 | a :: l,b :: m=>match Nat.beq a b with
  | true=>ze l m
  | false=>false
 | _,_=>false
theorem ut:∀ {l m:List Nat},ze l m=true -> l=m
 | [],[],_=>rfl
 | a :: l,b :: m,h=>by
  rw [ze] at h
  split at h
  ·rename_i e
   rw [Nat.eq_of_beq_eq_true e,ut h]
  ·cases h
 | [],_ :: _,h=>by simp [ze] at h
 | _ :: _,[],h=>by simp [ze] at h
theorem nr {v:Value} (h:jM v=0):∃ a,v=vI a:=by
 cases v with
 | int k x =>
  cases k with
  | i64=>exact ⟨x,rfl⟩
  | _=>simp [jM] at h
 | _=>simp [jM] at h
theorem Gu {v:Value} (h:jM v=1):∃ a,v=.string a:=by
 cases v with
 | int k x=>cases k <;> simp [jM] at h
 | string s=>exact ⟨s,rfl⟩
 | _=>simp [jM] at h
theorem AJ {v:Value} (h:jM v=2):∃ a n c,v=.slice a n c:=by
 cases v with
 | int k x=>cases k <;> simp [jM] at h
 | slice a n c=>exact ⟨a,n,c,rfl⟩
 | _=>simp [jM] at h
theorem bP {l:List Value} {a:Nat} {m:List Nat} (h:dk l=a :: m):∃ v l',l=v :: l' /\ jM v=a /\ dk l'=m:=by
 cases l with
 | nil=>simp [dk] at h
 | cons v l' =>
  rw [dk] at h
  injection h with h1 h2
  exact ⟨v,l',rfl,h1,h2⟩
theorem tp {l:List Value} (h:dk l=[]):l=[]:=by
 cases l with
 | nil=>rfl
 | cons v l'=>simp [dk] at h
def CH:Value -> Bool
 | .int .i64 x=>x == 0
 | _=>false
theorem uu {v:Value} (h:CH v=true):v=.int .i64 0:=by
 cases v with
 | int k x =>
  cases k with
  | i64=>simp [CH] at h;rw [h]
  | _=>simp [CH] at h
 | _=>simp [CH] at h
def parts:Value -> Option (List Value)
 | .tuple ⟨[.agg ⟨cs⟩,p,z]⟩=>match CH z,Co cs,kS p with
  | true,true,true=>some cs
  | _,_,_=>none
 | _=>none
def zf (tabs:List PB) (m:List Nat):Option Rs -> Bool
 | some (.fn (.tuple ⟨[.agg ⟨qs⟩,z]⟩) H _)=>match CH z,Co qs,ze (dk qs) m with
  | true,true,true=>qS H tabs
  | _,_,_=>false
 | _=>false
def rg (P:Program) (G k:Nat) (g:FuncId) (tabs:List PB) (l m:List Nat):Option Rs -> Bool
 | some (.fn v H n)=>match parts v with
  | some cs=>match qS H tabs,ze (dk cs) l with
   | true,true=>zf tabs m (pg P G k (.fn g [.agg ⟨cs⟩] H n))
   | _,_=>false
  | none=>false
 | _=>false
theorem Gv {v:Value} {cs:List Value} (h:parts v=some cs):∃ p,v=.tuple ⟨[.agg ⟨cs⟩,p,.int .i64 0]⟩ /\ Co cs=true /\ kS p=true:=by
 unfold parts at h
 split at h
 ·split at h
  ·rename_i h1 h2 h3
   cases h
   rw [uu h1]
   exact ⟨_,rfl,h2,h3⟩
  ·cases h
 ·cases h
theorem Gw {ν:Nu} {c:Array Value} {v':Value} (h:VRi ν (.tuple c) v'):∃ c':Array Value,v'=.tuple c' /\ c.size=c'.size /\ ∀ (i:Nat) (v w:Value),c[i]?=some v -> c'[i]?=some w -> VRi ν v w:=by
 cases h with
 | atom _ h=>simp [cj] at h
 | tuple e h=>exact ⟨_,rfl,e,h⟩
theorem LB {ν:Nu} {c:Array Value} {v':Value} (h:VRi ν (.agg c) v'):∃ c':Array Value,v'=.agg c' /\ c.size=c'.size /\ ∀ (i:Nat) (v w:Value),c[i]?=some v -> c'[i]?=some w -> VRi ν v w:=by
 cases h with
 | atom _ h=>simp [cj] at h
 | agg e h=>exact ⟨_,rfl,e,h⟩
def Oo (P:Program) (G k:Nat) (f:FuncId) (tabs:List PB) (args:List Value) (n0:Nat) (cs':List Value) (T:HL):Prop :=
 ∃ v H n ν cs,pg P G k (.fn f args (oc tabs) n0)=some (.fn v H n) /\ parts v=some cs /\ G <= n /\ HeapT ν H tabs G n T /\ LR ν cs cs'
section
variable {P:Program} {G k n0:Nat} {l m:List Nat} {f g:FuncId} {tabs:List PB} {args:List Value}
theorem CI (hm:P.follows .mixedOrders=true) (hG:Nat.ble G n0=true) (ht:oQ G tabs=true) (ha:rH args=true) (hnd:(tabs.map (·.1)).Nodup) (hrun:rg P G k g tabs l m (pg P G k (.fn f args (oc tabs) n0))=true) {F:HL} :
  Sp P f ⟨args⟩ (tabs.map fS) F λ u H'=>∃ cs T p,Oo P G k f tabs args n0 cs T /\ dk cs=l /\ u=.tuple ⟨[.agg ⟨cs⟩,p,.int .i64 0]⟩ /\ H'=tabs.map fS++T:=by
 intro w hR
 have hG:=bB hG
 cases hres:pg P G k (.fn f args (oc tabs) n0) with
 | none=>rw [hres] at hrun;cases hrun
 | some res=>cases res with
  | cd e s=>rw [hres] at hrun;cases hrun
  | fn v H n' =>
   have hres0:=hres
   rw [hres] at hrun
   simp only [rg] at hrun
   split at hrun
   case h_2=>cases hrun
   rename_i cs hp
   split at hrun
   case h_2=>cases hrun
   rename_i q1 q2
   obtain ⟨p,hv0,hok,hokp⟩:=Gv hp
   have q2:=ut q2
   rw [pE] at hres
   obtain ⟨hn,hcall⟩:=pC hm k _ _ hres
   have hlt:∀ p ∈ tabs,p.1 < G:=λ p hp=>(fd ht p hp).1
   refine (hcall (od tabs G) F w args (λ k hk=>⟨_,if_pos hk⟩) (λ h h1 h2=>by simp only [od];rw [if_neg (by omega)]) (Fw ht hR) (LR.plain_refl ha)).mono ?_
   rintro e w' ⟨ν,v',rfl,hv,hext,hH,hbel⟩
   have hνt:∀ p ∈ tabs,ν p.1=some (p.1,p.2.1.length):=λ p hp=>by
    rw [hext.out _ (.inl (by have:=hlt p hp;omega))]
    exact Je ht hnd p hp
   have hglb:Glb ν G:=λ k hk=>by
    rw [hext.out _ (.inl (by omega))]
    exact ⟨_,if_pos hk⟩
   have hnew:∀ h,n' <= h -> ν h=none:=λ h hh=>by
    rw [hext.out _ (.inr hh)]
    simp only [od]
    rw [if_neg (by omega)]
   have hpl:∀ p ∈ tabs,rH p.2.1=true:=λ p hp=>(fd ht p hp).2
   have hF:(F.map (·.1)).Nodup:=by
    have:=hR.nodup
    rw [List.map_append,List.nodup_append] at this
    exact this.2.1
   have hrel:=xf (n:=n') hH q1 hpl hνt hnd hF
   have hT:=LA hH hglb hnew hνt (λ p hp=>(un hH (lD q1 p hp) (hpl p hp) (hνt p hp)).1)
   have hvo:=pF hv (by rw [hv0,kS,JL,Co,kS,JL,hok,Co,hokp];rfl)
   rw [hv0] at hvo
   have hcs:LR ν cs (qQ ν cs):=by
    rw [hv0] at hv
    obtain ⟨c1,e1,_,h1⟩:=Gw hv
    rw [hvo] at e1
    cases e1
    obtain ⟨c2,e2,e3,h2⟩:=LB (h1 0 _ _ rfl rfl)
    cases e2
    exact LR.of_arr (c:=⟨cs⟩) (c':=⟨qQ ν cs⟩) e3 h2
   refine ⟨v',tabs.map fS++rf ν H w' tabs n',rfl,⟨qQ ν cs,_,kr ν p,⟨v,H,n',ν,cs,hres0,hp,by omega,hT,hcs⟩,?_,?_,rfl⟩,hrel,hbel⟩
   ·rw [oq];exact q2
   ·rw [hvo];rfl
theorem CJ (hm:P.follows .mixedOrders=true) (hrun:rg P G k g tabs l m (pg P G k (.fn f args (oc tabs) n0))=true) (ht:oQ G tabs=true) (hnd:(tabs.map (·.1)).Nodup) {cs':List Value} {T F:HL} (h:Oo P G k f tabs args n0 cs' T) :
  Sp P g ⟨[.agg ⟨cs'⟩]⟩ (tabs.map fS++T) F λ u H'=>∃ qs,dk qs=m /\ u=.tuple ⟨[.agg ⟨qs⟩,.int .i64 0]⟩ /\ H'=tabs.map fS:=by
 intro w hR
 obtain ⟨v,H,n,ν,cs,hres,hp,hGn,hT,hcs⟩:=h
 rw [hres] at hrun
 simp only [rg] at hrun
 rw [hp] at hrun
 simp only at hrun
 split at hrun
 case h_2=>cases hrun
 cases hres2:pg P G k (.fn g [.agg ⟨cs⟩] H n) with
 | none=>rw [hres2] at hrun;cases hrun
 | some res=>cases res with
  | cd e s=>rw [hres2] at hrun;simp [zf] at hrun
  | fn v2 H2 n2 =>
   rw [hres2] at hrun
   unfold zf at hrun
   split at hrun
   case h_2=>cases hrun
   rename_i qs z H3 n3 he
   cases he
   split at hrun
   case h_2=>cases hrun
   rename_i z1 z2 z3
   have z3:=ut z3
   rw [pE] at hres2
   obtain ⟨hn,hcall⟩:=pC hm k _ _ hres2
   have hpl:∀ p ∈ tabs,rH p.2.1=true:=λ p hp=>(fd ht p hp).2
   have hF:(F.map (·.1)).Nodup:=by
    have:=hR.nodup
    rw [List.map_append,List.nodup_append] at this
    exact this.2.1
   have hl:=LR.arr hcs
   refine (hcall ν F w [.agg ⟨cs'⟩] hT.glb (λ h h1 h2=>hT.new h h1) (hT.rel F w hR) (.cons (.agg hl.1 hl.2) .nil)).mono ?_
   rintro e w' ⟨ν2,v',rfl,hv,hext,hH,hbel⟩
   have hνt:∀ p ∈ tabs,ν2 p.1=some (p.1,p.2.1.length):=λ p hp=>by
    rw [hext.out _ (.inl (by have:=(fd ht p hp).1;omega))]
    exact hT.tab p hp
   have hrel:=xf (n:=0) hH hrun hpl hνt hnd hF
   have hvo:=pF hv (by rw [kS,JL,Co,kS,JL,z2,uu z1];rfl)
   refine ⟨v',tabs.map fS,rfl,⟨qQ ν2 qs,?_,?_,rfl⟩,?_,hbel⟩
   ·rw [oq];exact z3
   ·rw [hvo,uu z1];rfl
   ·have e0:rf ν2 H2 w' tabs 0=[]:=rfl
    rw [e0,List.append_nil] at hrel
    exact hrel
end
theorem CK {P:Program} {f:FuncId} {args:Array Value} {x:Nat × Blk} {T F:HL} {Q:Value -> HL -> Prop} (hx:x ∈ F) (h:∀ F0,Sp P f args ([x]++T) F0 λ u H'=>∃ Hp,Q u Hp /\ H'=[x]++Hp):Sp P f args T F Q:=by
 obtain ⟨l1,l2,rfl⟩:=List.append_of_mem hx
 have hp:∀ H:HL,([x]++H++(l1++l2)).Perm (H++(l1++x :: l2)):=λ H=>by
  refine List.Perm.trans ?_ (List.Perm.append_left H List.perm_middle.symm)
  show (x :: (H++(l1++l2))).Perm (H++x :: (l1++l2))
  exact List.perm_middle.symm
 intro w hR
 have hR1:Rel ([x]++T++(l1++l2)) w:=hR.perm (hp T)
 refine (h (l1++l2) w hR1).mono ?_
 rintro e w' ⟨v,H',he,⟨Hp,hq,rfl⟩,hR',hb⟩
 exact ⟨v,Hp,he,hq,hR'.perm (hp Hp).symm,hb⟩
def ou (src:ByteArray):Bool:=rg Tryz.prog 3 100000 65 gA [0,0,1,2,0,0,1,2,0,0,1,2] [2,0,0,0] (pg Tryz.prog 3 100000 (.fn 64 [.string src] (oc gA) 3))
theorem Gx:ou "".toUTF8=true:=by kernel_rfl
end
theorem Gy:ou Lg.toUTF8=true:=by kernel_rfl
theorem Gz:ou Lh.toUTF8=true:=by kernel_rfl
theorem GA:ou Li.toUTF8=true:=by kernel_rfl
theorem GB:ou Lj.toUTF8=true:=by kernel_rfl
noncomputable section
theorem AK {j:Nat} (hj:j < 5):ou (kT j)=true:=by
 match j,hj with
 | 0,_=>exact Gx
 | 1,_=>exact Gy
 | 2,_=>exact Gz
 | 3,_=>exact GA
 | 4,_=>exact GB
def AL (j:Nat) (cs:List Value) (T:HL):Prop:=Oo Tryz.prog 3 100000 64 gA [.string (kT j)] 3 cs T
theorem GC {j:Nat} (hj:j < 5) {F:HL} (hF:(0,Blk.lit qT 302 (0,0)) ∈ F):Sp Tryz.prog 64 #[.string (kT j)] [] F λ u H'=>∃ cs p,AL j cs H' /\ dk cs=[0,0,1,2,0,0,1,2,0,0,1,2] /\ u=.tuple ⟨[.agg ⟨cs⟩,p,.int .i64 0]⟩ :=
 wV hF λ F0=>(CI (G:=3) (n0:=3) (tabs:=gA) mixed rfl rfl rfl (by simp [gA]) (AK hj)).mono λ u H' ⟨cs,T,p,h1,h2,h3,h4⟩=>⟨T,⟨cs,p,h1,h2,h3⟩,h4⟩
theorem zg {j:Nat} (hj:j < 5) {F T:HL} {cs:List Value} (h:AL j cs T) (hF:(0,Blk.lit qT 302 (0,0)) ∈ F):Sp Tryz.prog 65 #[.agg ⟨cs⟩] T F λ u H'=>∃ qs,dk qs=[2,0,0,0] /\ u=.tuple ⟨[.agg ⟨qs⟩,.int .i64 0]⟩ /\ H'=[] :=
 CK hF λ F0=>(CJ (tabs:=gA) mixed (AK hj) rfl (by simp [gA]) h).mono λ u H' ⟨qs,h1,h2,h3⟩=>⟨[],⟨qs,h1,h2,rfl⟩,h3⟩
end
theorem GD {j:Nat} (hj:j < 5) (F:HL) (hE:kU F):Sp Tryz.prog 64 #[.string (kT j)] (ap [] []) F (λ u H'=>∃ x:List Value × Value × HL,H'=ap [] [x.2.2] /\ (u=.tuple #[.agg ⟨x.1⟩,x.2.1,vI 0] /\ AL j x.1 x.2.2 /\ dk x.1=[0,0,1,2,0,0,1,2,0,0,1,2])) :=
 (GC hj hE).mono λ u H' ⟨cs,p,h1,h2,h3⟩=>⟨(cs,p,H'),(cU _).symm,h3,h1,h2⟩
theorem Jf {j:Nat} (hj:j < 5) {T:HL} (F:HL) {cs:List Value} (h:AL j cs T) (hE:kU F):Sp Tryz.prog 65 #[.agg ⟨cs⟩] (ap [] [T]) F (λ u H'=>∃ x:List Value,H'=ap [] [] /\ (u=.tuple #[.agg ⟨x⟩,vI 0] /\ dk x=[2,0,0,0])):=by
 rw [cU]
 exact (zg hj h hE).mono λ u H' ⟨qs,h1,h2,h3⟩=>⟨qs,h3,h2,h1⟩
theorem GE {l:List Value} (h:dk l=[0,0,1,2,0,0,1,2,0,0,1,2]):∃ x:(Int × Int × ByteArray × Option Addr × Nat × Nat) × (Int × Int × ByteArray × Option Addr × Nat × Nat) × (Int × Int × ByteArray × Option Addr × Nat × Nat),l=[vI x.1.1,vI x.1.2.1,.string x.1.2.2.1,.slice x.1.2.2.2.1 x.1.2.2.2.2.1 x.1.2.2.2.2.2,vI x.2.1.1,vI x.2.1.2.1,.string x.2.1.2.2.1,.slice x.2.1.2.2.2.1 x.2.1.2.2.2.2.1 x.2.1.2.2.2.2.2,vI x.2.2.1,vI x.2.2.2.1,.string x.2.2.2.2.1,.slice x.2.2.2.2.2.1 x.2.2.2.2.2.2.1 x.2.2.2.2.2.2.2]:=by
 obtain ⟨v1,_,rfl,k1,h⟩:=bP h
 obtain ⟨v2,_,rfl,k2,h⟩:=bP h
 obtain ⟨v3,_,rfl,k3,h⟩:=bP h
 obtain ⟨v4,_,rfl,k4,h⟩:=bP h
 obtain ⟨v5,_,rfl,k5,h⟩:=bP h
 obtain ⟨v6,_,rfl,k6,h⟩:=bP h
 obtain ⟨v7,_,rfl,k7,h⟩:=bP h
 obtain ⟨v8,_,rfl,k8,h⟩:=bP h
 obtain ⟨v9,_,rfl,k9,h⟩:=bP h
 obtain ⟨v10,_,rfl,k10,h⟩:=bP h
 obtain ⟨v11,_,rfl,k11,h⟩:=bP h
 obtain ⟨v12,_,rfl,k12,h⟩:=bP h
 rw [tp h]
 obtain ⟨a1,rfl⟩:=nr k1
 obtain ⟨a2,rfl⟩:=nr k2
 obtain ⟨a3,rfl⟩:=Gu k3
 obtain ⟨a4,b4,c4,rfl⟩:=AJ k4
 obtain ⟨a5,rfl⟩:=nr k5
 obtain ⟨a6,rfl⟩:=nr k6
 obtain ⟨a7,rfl⟩:=Gu k7
 obtain ⟨a8,b8,c8,rfl⟩:=AJ k8
 obtain ⟨a9,rfl⟩:=nr k9
 obtain ⟨a10,rfl⟩:=nr k10
 obtain ⟨a11,rfl⟩:=Gu k11
 obtain ⟨a12,b12,c12,rfl⟩:=AJ k12
 exact ⟨((a1,a2,a3,a4,b4,c4),(a5,a6,a7,a8,b8,c8),(a9,a10,a11,a12,b12,c12)),rfl⟩
theorem AM {l:List Value} (h:dk l=[2,0,0,0]):∃ (A:Option Addr) (n c:Nat) (a b d:Int),l=[.slice A n c,vI a,vI b,vI d]:=by
 obtain ⟨v1,_,rfl,k1,h⟩:=bP h
 obtain ⟨v2,_,rfl,k2,h⟩:=bP h
 obtain ⟨v3,_,rfl,k3,h⟩:=bP h
 obtain ⟨v4,_,rfl,k4,h⟩:=bP h
 rw [tp h]
 obtain ⟨A,n,c,rfl⟩:=AJ k1
 obtain ⟨a,rfl⟩:=nr k2
 obtain ⟨b,rfl⟩:=nr k3
 obtain ⟨d,rfl⟩:=nr k4
 exact ⟨A,n,c,a,b,d,rfl⟩
def Setup.mt (S:Setup) (nn:Nat):Setup:={ S with nb:=nn,rounds:=1,fuel:=12 }
structure MtN (S:Setup) (nn:Nat):Prop where
 pl:1 <= S.players /\ S.players <= 3
 nb:S.players <= (nn:Int) /\ 1 <= nn /\ nn <= S.nb /\ S.nb <= 5
theorem GG {F:HL} {S:Setup} {nn:Nat} (h:MtN S nn) (hS:SetIn F S):SetIn F (S.mt nn):=⟨⟨hS.pl,by have h1:=h.nb;show nn <= 1000000;omega⟩,hS.blk,by have h1:=hS.room;have h2:=h.nb;show S.bo+nn <= S.bR;omega,λ k hk=>hS.shp k (by have h2:=h.nb;have h3:k < nn:=hk;omega)⟩
theorem Oq {S:Setup} {nn:Nat} (h:MtN S nn):SetV (S.mt nn):=⟨h.pl,⟨h.nb.2.1,by have h1:=h.nb;show nn <= 5;omega⟩,⟨show (1:Int) <= 1 by decide,show (1:Int) <= 3 by decide⟩,⟨show (0:Int) <= 12 by decide,show (12:Int) <= 60 by decide⟩⟩
theorem LD {S:Setup} {nn:Nat} {rs:List Bx} {ds:List Dr} (h:MtN S nn) (hv:fJ S rs ds=0):fJ (S.mt nn) rs ds=0:=by
 have h2:=h.nb
 unfold fJ at hv ⊢
 split at hv
 ·next c1 =>
  split at hv
  ·next c2 =>
   split at hv
   ·next c3 =>
    have d1:∀ k,k < (S.mt nn).nb -> kq ((S.mt nn).body k).sh:=λ k hk=>c1 k (by have h3:k < nn:=hk;omega)
    have d3:∀ k,k < (S.mt nn).nb -> fv ((S.mt nn).body k) (S.mt nn).box:=λ k hk=>c3 k (by have h3:k < nn:=hk;omega)
    rw [if_pos d1,if_pos,if_pos d3]
    obtain ⟨⟨v1,v2,v3,v4,v5,v6,v7,v8⟩,c5,c6⟩:=c2
    refine ⟨⟨v1,?_,v3,v4,v5,v6,?_,?_⟩,c5,c6⟩
    ·simp only [ju,kK,and_true] at v2 ⊢
     show S.players <= ((nn:Nat):Int) /\ ((nn:Nat):Int) <= 24
     omega
    ·simp only [ju,kK,and_true]
     show (1:Int) <= 1 /\ (1:Int) <= 4
     decide
    ·simp only [ju,kK,and_true]
     show (0:Int) <= 12 /\ (12:Int) <= 1000
     decide
   ·cases hv
  ·cases hv
 ·cases hv
theorem zh {F:HL} {S:Setup} {nn:Nat} {rs:List Bx} {ds:List Dr} (hM:MapIn F S rs ds):MapIn F (S.mt nn) rs ds:=⟨hM.rooms,hM.doors⟩
theorem Jg {S:Setup} {nn:Nat} (h:MtN S nn):48 <= sizeOf (S.mt nn) /\ sizeOf (S.mt nn) <= 100:=by
 have h1:=h.pl
 have h2:=h.nb
 show 48 <= 48+4 * S.players+8 * ((nn:Nat):Int) /\ 48+4 * S.players+8 * ((nn:Nat):Int) <= 100
 omega
theorem LE (A0 AI:Option Addr) (n0 c0 nI cI cnt:Nat) (xs xI:List Int) (i1 i3:Int) (F:HL) (hE0:kU F) (hl0:ArgD F A0 n0 xs) (hn0:n0 <= 9223372036854775807) (hl2:ArgD F AI nI xI) (hn2:nI <= 9223372036854775807) (hi1:qa i1) (hcnt:aE i3 4=(cnt:Int)) (hcl:cnt <= 3):Sp Tryz.prog 23 #[.slice A0 n0 c0,vI i1,.slice AI nI cI,vI i3] [] F (λ u H'=>∃ x:(Setup × Nat) × (Nat × List Value × Option Addr × Nat × List Rw) × HL × HL × HL × HL,H'=ap [(x.1.1.bb,.rows 9 x.1.1.bR (fF x.1.1.bods) 106 (0,0))] [x.2.2.1,x.2.2.2.1,x.2.2.2.2.1,x.2.2.2.2.2] /\ (u=.tuple #[Setup.v (x.1.1.mt x.1.2),vP x.2.1.1 0,.agg ⟨x.2.1.2.1⟩,.slice x.2.1.2.2.1 cnt x.2.1.2.2.2.1,.bool true] /\ dk x.2.1.2.1=[2,0,0,0] /\ (SetG xs x.1.1 x.2.2.1 /\ MtN x.1.1 x.1.2 /\ Book1 (aE i1 5).toNat x.2.1.1 x.2.2.2.1 /\ SlIs fh 56 x.2.1.2.2.2.2 x.2.1.2.2.1 x.2.1.2.2.2.1 x.2.2.2.2.1 /\ x.2.1.2.2.2.2.length=cnt /\ RwsT x.2.1.2.2.2.2 (dW x.1.1.players xI cnt) x.2.2.2.2.2))):=by
 refine Sp.run Tryz.func23 rfl mn (A:=[]) (Ts:=[]) rfl λ w0=>?_
 refine ae 12 [] λ n1=>RN.ct (Hp:=[]) (Tp:=[]) [] [] (hl0.up.use λ F_ h_=>Ev A0 n0 c0 xs _ h_ hn0) ?_
 rintro _ ⟨S,TS⟩ ⟨rfl,hG⟩
 dsimp only at hG
 have hF:=FR hl0 hG
 have hpl:=hF.pl
 have hnb:=hF.nb
 have hrn:=hF.rn
 have hdn:=hF.dn
 have hsz:=hF.sz
 have hil:=fk S S.nb
 have hV:SetV S:=hl0.ex.elim λ _ h_=>setV h_ hG
 refine ae 15 (ow 0 19) λ n2=>?_
 have hcp_:=hG.cap
 have hpn_:S.players <= (S.nb:Int):=hl0.ex.elim λ _ h_=>by have h1_:=mZ h_;have h2_:=qd h_;have h3_:=hG.nb;have h4_:=hG.pl;omega
 obtain ⟨nn,hnn,hmt_⟩:∃ nn:Nat,(if (if 2 > S.players then 2 else S.players) < (S.nb:Int) then (if 2 > S.players then 2 else S.players) else (S.nb:Int))=(nn:Int) /\ MtN S nn:=by
  refine ⟨(if (if 2 > S.players then 2 else S.players) < (S.nb:Int) then (if 2 > S.players then 2 else S.players) else (S.nb:Int)).toNat,?_,⟨hpl,?_⟩⟩
  all_goals (repeat' split) <;> omega
 have hnb_:=hmt_.nb
 refine al 20 [.sl 0 nn false,.own 0,.own 0,.own 0] [0=0 /\ (if (if 2 > S.players then 2 else S.players) < (S.nb:Int) then (if 2 > S.players then 2 else S.players) else (S.nb:Int))=((nn:Nat):Int) /\ 0 <= nn /\ nn <= S.bc /\ S.bc ≠ 0] λ _=>aj (yL i1 _ hi1) ?_
 have hj:(aE i1 5).toNat < 5:=by have h_:=eY (n:=i1) hi1 5 (by decide);omega
 refine ae 6 [] λ _=>RN.ct (Hp:=[]) (Tp:=[]) [] [] (wY (aE i1 5).toNat _ hj (au hE0)) ?_
 rintro _ ⟨b3,T4⟩ ⟨rfl,hB5⟩
 dsimp only at hB5
 refine ae 10 [] λ _=>RN.ct (Hp:=[]) (Tp:=[]) [] [] (GD hj _ (au hE0)) ?_
 rintro _ ⟨cs_,po_,T6⟩ ⟨rfl,ht7,hl12_⟩
 dsimp only at ht7 hl12_
 obtain ⟨⟨⟨ka0_,kb0_,ks0_,kA0_,kn0_,kc0_⟩,⟨ka1_,kb1_,ks1_,kA1_,kn1_,kc1_⟩,⟨ka2_,kb2_,ks2_,kA2_,kn2_,kc2_⟩⟩,rfl⟩:=GE hl12_
 refine ae 13 (ow 0 24) λ n8=>RN.ct [] [0] (Jf hj _ ht7 (au hE0)) ?_
 rintro _ qs_ ⟨rfl,hl4_⟩
 obtain ⟨qA_,qn_,qc_,qa_,qb_,qd_,rfl⟩:=AM hl4_
 refine ae 28 [.own 0,.own 0,.own 0,.own 0] λ n9=>RN.draw [9,11] []<|ag [] [0,1,3,4,5,8] (ow 2 32)<|ar [] 6 (λ X_=>(F6 hcnt (by decide) _))<|eh 2 7 ?_ ?_
 ·refine RDO.ev [] [.own 0,.own 0,.own 0,.own 0] λ _=>RD.one 7 (RDO.ct [] (Hp:=[]) (Tp:=[]) [] [] (hl2.up.use λ F_ h_=>Ay (S.mt nn) AI nI cI xI (cnt:Int) cnt F_ h_ hn2 (by show 1 <= S.players /\ S.players <= 1000000;omega) rfl (by omega)) ?_)
  rintro _ ⟨⟨A10,c11,rs12⟩,E13,T14⟩ ⟨rfl,hs15,hl16,hT17⟩
  dsimp only at hs15 hl16 hT17
  have hgr:∀ i,i < cnt -> fN S.players ((dW S.players xI cnt).getD i []):=λ i hi=>hl2.ex.elim λ _ h_=>qW h_ (by omega) cnt i hi
  refine RD.one 9 (RDO.ev [] (ow 5 16) λ _=>?_)
  refine ag [] [10] []<|RD.one 11 (RDO.ev [] [.own 4,.own 4,.own 4,.own 4] λ _=>?_)
  refine ag [] [12,13] []<|RD.fin<|ae 1 [] λ _=>RN.ret (ow 5 16++[.own 4,.own 4,.own 4,.own 4]) [3] [3,2,0,1] (v:=.tuple #[.agg #[vI S.players,vS S.bb (S.bo * 9+0 * 9) (nn - 0) (S.bc - 0),vI S.box.x0,vI S.box.y0,vI S.box.x1,vI S.box.y1,.slice S.rA S.rn S.rc,.slice S.dA S.dn S.dc,vI S.fog,vI S.g.x,vI S.g.y,vI S.push,vI S.drag,vI S.rest,vI 1,vI 12],vP b3 0,.agg #[.slice qA_ qn_ qc_,vI qa_,vI qb_,vI qd_],.slice A10 cnt c11,.bool true]) (H':=(ap [(S.bb,.rows 9 S.bR (fF S.bods) 106 (0,0))] [TS,T4,E13,T14])) ?_
  exact ⟨((S,nn),(b3,[.slice qA_ qn_ qc_,vI qa_,vI qb_,vI qd_],A10,c11,rs12),TS,T4,E13,T14),rfl,rfl,rfl,hG,hmt_,hB5,hs15,hl16,hT17⟩
 ·refine RDO.ct [] (Hp:=[]) (Tp:=[]) [] [] (hl2.up.use λ F_ h_=>Ay (S.mt nn) AI nI cI xI (cnt:Int) cnt F_ h_ hn2 (by show 1 <= S.players /\ S.players <= 1000000;omega) rfl (by omega)) ?_
  rintro _ ⟨⟨A18,c19,rs20⟩,E21,T22⟩ ⟨rfl,hs23,hl24,hT25⟩
  dsimp only at hs23 hl24 hT25
  have hgr:∀ i,i < cnt -> fN S.players ((dW S.players xI cnt).getD i []):=λ i hi=>hl2.ex.elim λ _ h_=>qW h_ (by omega) cnt i hi
  refine il (σ:=Unit) (λ _=>⟨[(8,vP (n1+0) 0),(9,vP b3 0),(10,vP (n1+1) 0),(11,.slice A18 cnt c19),(12,.bool true)],[((n9+0),.lit [.slice qA_ qn_ qc_,vI qa_,vI qb_,vI qd_] 47 (0,0)),((n8+0),.lit [vI ka0_,vI kb0_,.string ks0_,.slice kA0_ kn0_ kc0_,vI ka1_,vI kb1_,.string ks1_,.slice kA1_ kn1_ kc1_,vI ka2_,vI kb2_,.string ks2_,.slice kA2_ kn2_ kc2_] 157 (0,0)),((n2+0),.lit [vI S.players,vS S.bb (S.bo * 9+0 * 9) (nn - 0) (S.bc - 0),vI S.box.x0,vI S.box.y0,vI S.box.x1,vI S.box.y1,.slice S.rA S.rn S.rc,.slice S.dA S.dn S.dc,vI S.fog,vI S.g.x,vI S.g.y,vI S.push,vI S.drag,vI S.rest,vI 1,vI 12] 31 (0,0)),(S.bb,.rows 9 S.bR (fF S.bods) 106 (0,0)),((n1+1),.lit [.slice qA_ qn_ qc_,vI qa_,vI qb_,vI qd_] 47 (0,0)),((n1+0),.lit [vI S.players,vS S.bb (S.bo * 9+0 * 9) (nn - 0) (S.bc - 0),vI S.box.x0,vI S.box.y0,vI S.box.x1,vI S.box.y1,.slice S.rA S.rn S.rc,.slice S.dA S.dn S.dc,vI S.fog,vI S.g.x,vI S.g.y,vI S.push,vI S.drag,vI S.rest,vI 1,vI 12] 31 (0,0))],[E21,T22,T4,TS],True,0⟩) ?_ ?_
  ·rintro ⟨⟩
   refine ae 1 [] λ _=>RN.ret (ow 5 16++[.own 4,.own 4,.own 4,.own 4]) [3] [3,2,0,1] (v:=.tuple #[.agg #[vI S.players,vS S.bb (S.bo * 9+0 * 9) (nn - 0) (S.bc - 0),vI S.box.x0,vI S.box.y0,vI S.box.x1,vI S.box.y1,.slice S.rA S.rn S.rc,.slice S.dA S.dn S.dc,vI S.fog,vI S.g.x,vI S.g.y,vI S.push,vI S.drag,vI S.rest,vI 1,vI 12],vP b3 0,.agg #[.slice qA_ qn_ qc_,vI qa_,vI qb_,vI qd_],.slice A18 cnt c19,.bool true]) (H':=(ap [(S.bb,.rows 9 S.bR (fF S.bods) 106 (0,0))] [TS,T4,E21,T22])) ?_
   exact ⟨((S,nn),(b3,[.slice qA_ qn_ qc_,vI qa_,vI qb_,vI qd_],A18,c19,rs20),TS,T4,E21,T22),rfl,rfl,rfl,hG,hmt_,hB5,hs23,hl24,hT25⟩
  ·intro key26
   refine eh 2 9 ?_ ?_
   ·refine RDO.ev [] [.own 0,.own 0,.own 0,.own 0] λ _=>RD.one 9 (RDO.ev [] (ow 5 16) λ _=>?_)
    refine RD.one 10 (RDO.ev [] [] λ _=>?_)
    refine RD.one 11 (RDO.ev [] [.own 4,.own 4,.own 4,.own 4] λ _=>?_)
    refine RD.one 12 (RDO.ev [] [] λ _=>?_)
    refine RD.one 13 (RDO.ev [] [] λ _=>?_)
    exact key26 () [0,1,2,3,4,5] [0,1,2,3]
   ·refine RDO.ev [] (ow 5 16) λ _=>eh 2 10 ?_ ?_
    ·refine RDO.ev [] [.own 0,.own 0,.own 0,.own 0] λ _=>RD.one 10 (RDO.ev [] [] λ _=>?_)
     refine RD.one 11 (RDO.ev [] [.own 4,.own 4,.own 4,.own 4] λ _=>?_)
     refine RD.one 12 (RDO.ev [] [] λ _=>?_)
     refine RD.one 13 (RDO.ev [] [] λ _=>?_)
     exact key26 () [0,1,2,3,4,5] [0,1,2,3]
    ·refine RDO.ev [] [] λ _=>RD.one 2 (RDO.ev [] [.own 0,.own 0,.own 0,.own 0] λ _=>?_)
     refine RD.one 11 (RDO.ev [] [.own 4,.own 4,.own 4,.own 4] λ _=>?_)
     refine RD.one 12 (RDO.ev [] [] λ _=>?_)
     refine RD.one 13 (RDO.ev [] [] λ _=>?_)
     exact key26 () [0,1,2,3,4,5] [0,1,2,3]
theorem LF (A0 AI:Option Addr) (n0 c0 nI cI cnt:Nat) (xs xI:List Int) (i1 i3:Int) (F:HL) (hE0:kU F) (hl0:ArgD F A0 n0 xs) (hn0:n0 <= 9223372036854775807) (hl2:ArgD F AI nI xI) (hn2:nI <= 9223372036854775807) (hi1:qa i1) (hcnt:aE i3 4=(cnt:Int)) (hcl:cnt <= 3):Sp Tryz.prog 23 #[.slice A0 n0 c0,vI i1,.slice AI nI cI,vI i3] (ap [] []) F (λ u H'=>∃ x:(Setup × Nat) × (Nat × List Value × Option Addr × Nat × List Rw) × HL × HL × HL × HL,H'=ap [(x.1.1.bb,.rows 9 x.1.1.bR (fF x.1.1.bods) 106 (0,0))] [x.2.2.1,x.2.2.2.1,x.2.2.2.2.1,x.2.2.2.2.2] /\ (u=.tuple #[Setup.v (x.1.1.mt x.1.2),vP x.2.1.1 0,.agg ⟨x.2.1.2.1⟩,.slice x.2.1.2.2.1 cnt x.2.1.2.2.2.1,.bool true] /\ dk x.2.1.2.1=[2,0,0,0] /\ (SetG xs x.1.1 x.2.2.1 /\ MtN x.1.1 x.1.2 /\ Book1 (aE i1 5).toNat x.2.1.1 x.2.2.2.1 /\ SlIs fh 56 x.2.1.2.2.2.2 x.2.1.2.2.1 x.2.1.2.2.2.1 x.2.2.2.2.1 /\ x.2.1.2.2.2.2.length=cnt /\ RwsT x.2.1.2.2.2.2 (dW x.1.1.players xI cnt) x.2.2.2.2.2))):=LE A0 AI n0 c0 nI cI cnt xs xI i1 i3 F hE0 hl0 hn0 hl2 hn2 hi1 hcnt hcl
end Go.Proofs.YtghjbimijeinfaaGreatDoor
