import Derived.Test.YtgdcbiiopbpgaaaGreatDoorY33
import Derived.Test.YtgdcbiiopbpgaaaGreatDoorY35
import Derived.Test.YtgdcbiiopbpgaaaGreatDoorProg
import Derived.Test.YtgdcbiiopbpgaaaGreatDoorY25
import Derived.Test.YtgdcbiiopbpgaaaGreatDoorY11
set_option maxHeartbeats 4000000
set_option maxRecDepth 100000
set_option linter.unusedSimpArgs false
set_option linter.unusedVariables false
namespace Go.Proofs.YtgdcbiiopbpgaaaGreatDoor
open Go.RowKit
noncomputable section
def uu (ν:Nu) (h:Nat):Nat:=match ν h with
 | some (b,_)=>b
 | none=>0
def OM (ν:Nu) (h c:Nat):Nat:=match Nat.blt c ls with
 | true=>c
 | false=>match ν h with
  | some (_,K)=>K - (c - ls)
  | none=>0
mutual
def lR (ν:Nu):Value -> Value
 | .pointer (some a)=>.pointer (some ⟨uu ν a.block,a.off,none⟩)
 | .slice (some a) n c=>.slice (some ⟨uu ν a.block,a.off,none⟩) n (OM ν a.block c)
 | .map (some h)=>.map (some (uu ν h))
 | .iface t v=>.iface t (lR ν v)
 | .agg c=>.agg (FY ν c)
 | .tuple c=>.tuple (FY ν c)
 | v=>v
def FY (ν:Nu):Array Value -> Array Value
 | ⟨l⟩=>⟨FZ ν l⟩
def FZ (ν:Nu):List Value -> List Value
 | []=>[]
 | v :: l=>lR ν v :: FZ ν l
end
mutual
def qY:Value -> Bool
 | .iface _ v=>qY v
 | .func f a c=>pl (.func f a c)
 | .agg c=>NZ c
 | .tuple c=>NZ c
 | .chan _=>false
 | _=>true
def NZ:Array Value -> Bool
 | ⟨l⟩=>Lj l
def Lj:List Value -> Bool
 | []=>true
 | v :: l=>match qY v with
  | true=>Lj l
  | false=>false
end
theorem uv {ν:Nu}:∀ {l l':List Value},l.length=l'.length -> (∀ (i:Nat) (v v':Value),l[i]?=some v -> l'[i]?=some v' -> qY v=true -> v'=lR ν v) -> Lj l=true -> l'=FZ ν l
 | [],[],_,_,_=>rfl
 | [],_ :: _,e,_,_=>by simp at e
 | _ :: _,[],e,_,_=>by simp at e
 | v :: l,v' :: l',e,h,ho=>by
  rw [Lj] at ho
  cases hv:qY v with
  | false=>rw [hv] at ho;cases ho
  | true =>
   rw [hv] at ho
   have a1:=h 0 v v' rfl rfl hv
   have a2:=uv (l:=l) (l':=l') (by simpa using e) (λ i a b h1 h2=>h (i+1) a b (by simpa using h1) (by simpa using h2)) ho
   rw [FZ,<- a1,<- a2]
theorem Az {ν:Nu} {v v':Value} (h:VRi ν v v'):qY v=true -> v'=lR ν v:=by
 induction h with
 | atom v h =>
  intro _
  cases v with
  | pointer a=>cases a with
   | none=>rfl
   | some a=>simp [cw] at h
  | slice a n c=>cases a with
   | none=>rfl
   | some a=>simp [cw] at h
  | map r=>cases r with
   | none=>rfl
   | some r=>simp [cw] at h
  | iface t v=>simp [cw] at h
  | agg c=>simp [cw] at h
  | tuple c=>simp [cw] at h
  | _=>rfl
 | ptr o h=>intro _;simp [lR,uu,h]
 | @slice hd b K c c' o n h hc =>
  intro _
  simp only [lR,uu,OM,h]
  congr 1
  cases hb:Nat.blt c ls with
  | true=>exact hc.1 (Eq.mp Nat.blt_eq hb)
  | false =>
   have h2:=hc.2 (ku hb)
   simp only
   omega
 | map h=>intro _;simp [lR,uu,h]
 | func hf e1 h1 e2 h2 _ _ =>
  intro ho
  have:=VRi.plain_eq (VRi.func hf e1 h1 e2 h2) (by simpa only [qY] using ho)
  rw [this];rfl
 | iface t _ ih=>intro ho;rw [lR,<- ih (by simpa only [qY] using ho)]
 | @agg c c' e _ ih =>
  intro ho
  obtain ⟨l⟩:=c
  obtain ⟨l'⟩:=c'
  simp only [List.getElem?_toArray] at ih
  rw [lR,FY,uv (l:=l) (l':=l') e ih (by simpa only [qY,NZ] using ho)]
 | @tuple c c' e _ ih =>
  intro ho
  obtain ⟨l⟩:=c
  obtain ⟨l'⟩:=c'
  simp only [List.getElem?_toArray] at ih
  rw [lR,FY,uv (l:=l) (l':=l') e ih (by simpa only [qY,NZ] using ho)]
theorem IP {ν:Nu} {l l':List Value} (h:LR ν l l'):Lj l=true -> l'=l.map (lR ν):=by
 induction h with
 | nil=>intro _;rfl
 | @cons v v' l l' h _ ih =>
  intro ho
  rw [Lj] at ho
  cases hv:qY v with
  | false=>rw [hv] at ho;cases ho
  | true =>
   rw [hv] at ho
   rw [List.map_cons,Az h hv,ih ho]
abbrev PB:=Nat × List Value × TypeId
def IQ (H:AH) (p:PB):Bool:=match bK H p.1 with
 | some (.cells n t ty _ _)=>match Nat.beq n (fX p.2.1),Nat.beq ty p.2.2 with
  | true,true=>match pz (gy t 0 n) p.2.1 with
   | true=>Lj p.2.1
   | false=>false
  | _,_=>false
 | _=>false
def AA (H:AH):List PB -> Bool
 | []=>true
 | p :: l=>match IQ H p with
  | true=>AA H l
  | false=>false
def oE (ν:Nu) (w:World) (p:PB):List Value:=match w.heap[uu ν p.1]? with
 | some (.cells c _ _)=>c.toList.drop p.2.1.length
 | _=>[]
def qZ (ν:Nu) (rest:PB -> List Value) (p:PB):Nat × Blk:=(uu ν p.1,.lit (p.2.1.map (lR ν)++rest p) p.2.2 (0,0))
theorem AC (l l':List Value) (h:pz l l'=true):l=l':=by
 induction l generalizing l' with
 | nil=>cases l' with
  | nil=>rfl
  | cons v l'=>simp [pz] at h
 | cons v l ih=>cases l' with
  | nil=>simp [pz] at h
  | cons v' l' =>
   rw [pz] at h
   cases hv:rI v v' with
   | false=>rw [hv] at h;cases h
   | true=>rw [hv] at h;rw [yP _ _ hv,ih _ h]
theorem F1 {ν:Nu} {H:AH} {F:HL} {w:World} (hH:HR ν H F w) {p:PB} (hc:IQ H p=true) :
  (∃ K,ν p.1=some (uu ν p.1,K)) /\ (∃ b,bK H p.1=some b) /\ w.heap[uu ν p.1]?=some (qZ ν (oE ν w) p).2.den:=by
 unfold IQ at hc
 split at hc
 case h_2=>cases hc
 rename_i n t ty ww ro hb
 split at hc
 case h_2=>cases hc
 rename_i e1 e2
 have e1:=Nat.eq_of_beq_eq_true e1
 have e2:=Nat.eq_of_beq_eq_true e2
 split at hc
 case h_2=>cases hc
 rename_i e3
 have e3:=AC _ _ e3
 obtain ⟨r,K,o,h1,h2,h3⟩:=hH.blk _ _ hb
 have hn:uu ν p.1=r:=by simp [uu,h1]
 have hcc:=hH.cells hb h1
 obtain ⟨c,ty',fz,g1,g2⟩:=hcc
 refine ⟨⟨K,by rw [hn];exact h1⟩,⟨_,hb⟩,?_⟩
 rw [hn,g1]
 have hr:=jL g2.le g2.get n 0 (by omega)
 rw [e3] at hr
 have hl:=IP hr hc
 rw [dX] at e1
 simp only [qZ,Blk.den,oE,hn,g1,g2.ty,g2.fz,<- e2]
 congr 2
 apply Array.ext'
 simp only
 rw [<- hl,List.drop_zero,<- e1,List.take_append_drop]
def wZ:List PB -> AH
 | []=>.lf
 | p :: l=>cP (wZ l) p.1 (some (.cells (fX p.2.1) (dC undef p.2.1 0 .lf) p.2.2 1 true))
def w7 (tabs:List PB) (G:Nat):Nu:=λ h=>if h < G then some (h,match tabs.find? (λ p=>p.1 == h) with | some p=>p.2.1.length | none=>0) else none
def nF (p:PB):Nat × Blk:=(p.1,.lit p.2.1 p.2.2 (0,0))
def xa (G:Nat):List PB -> Bool
 | []=>true
 | p :: l=>match Nat.blt p.1 G,wi p.2.1,l.any (λ q=>q.1 == p.1) with
  | true,true,false=>xa G l
  | _,_,_=>false
end
noncomputable section
theorem AD:∀ (tabs:List PB) (h:Nat),bK (wZ tabs) h=match tabs.find? (λ p=>p.1 == h) with
  | some p=>some (.cells (fX p.2.1) (dC undef p.2.1 0 .lf) p.2.2 1 true)
  | none=>none
 | [],h=>yE _
 | p :: l,h=>by
  rw [wZ,dq,AD l h]
  by_cases e:p.1=h
  ·rw [if_pos e,List.find?_cons_of_pos (by simpa using e)]
  ·rw [if_neg e,List.find?_cons_of_neg (by simpa using e)]
theorem lD {G:Nat}:∀ {tabs:List PB},xa G tabs=true -> ∀ p ∈ tabs,p.1 < G /\ wi p.2.1=true
 | [],_,p,hp=>by simp at hp
 | q :: l,h,p,hp=>by
  rw [xa] at h
  split at h
  ·rename_i h1 h2 h3
   rcases List.mem_cons.1 hp with rfl | hp
   ·exact ⟨Eq.mp Nat.blt_eq h1,h2⟩
   ·exact lD h p hp
  ·cases h
theorem AE:∀ {l:List Value},wi l=true -> ∀ {i:Nat} {v:Value},l[i]?=some v -> pl v=true
 | [],_,i,v,h=>by simp at h
 | x :: l,hp,i,v,h=>by
  rw [wi] at hp
  split at hp
  ·rename_i hx
   cases i with
   | zero=>simp at h;rw [<- h];exact hx
   | succ i=>exact AE hp (by simpa using h)
  ·cases hp
theorem oG {tabs:List PB} {h:Nat} {p:PB} (e:tabs.find? (λ p=>p.1 == h)=some p):p ∈ tabs /\ p.1=h :=
 ⟨List.mem_of_find?_eq_some e,by simpa using List.find?_some e⟩
section
variable {tabs picks:List PB} {G:Nat} {F:HL} {w:World}
theorem Lk (ht:xa G tabs=true) (hR:Rel (tabs.map nF++F) w):HR (w7 tabs G) (wZ tabs) F w:=by
 have key:∀ h b,bK (wZ tabs) h=some b -> ∃ p,tabs.find? (λ p=>p.1 == h)=some p /\ b=.cells (fX p.2.1) (dC undef p.2.1 0 .lf) p.2.2 1 true:=λ h b hb=>by
  rw [AD] at hb
  split at hb
  ·rename_i p hp;cases hb;exact ⟨p,hp,rfl⟩
  ·cases hb
 refine ⟨λ h b hb=>?_,λ h₁ h₂ b₁ b₂ r K₁ K₂ _ _ e1 e2=>?_,λ x hx=>hR.holds x (List.mem_append_right _ hx),λ h b r K hb e1 x hx=>?_⟩
 ·obtain ⟨p,hp,rfl⟩:=key h b hb
  obtain ⟨hm,rfl⟩:=oG hp
  obtain ⟨hlt,hpl⟩:=lD ht p hm
  refine ⟨p.1,p.2.1.length,.cells ⟨p.2.1⟩ p.2.2 (0,0),by simp only [w7,if_pos hlt,hp],?_,?_⟩
  ·exact hR.holds (nF p) (List.mem_append_left _ (List.mem_map.2 ⟨p,hm,rfl⟩))
  ·refine ⟨rfl,by rw [dX];exact Nat.le_refl _,rfl,λ i hi=>?_,λ _=>by simp⟩
   rw [dX] at hi
   refine ⟨p.2.1[i],by simp [hi],?_⟩
   rw [kU hi]
   exact VRi.plain_refl _ (AE hpl (List.getElem?_eq_getElem hi))
 ·unfold w7 at e1 e2
  split at e1
  ·split at e2
   ·simp only [Option.some.injEq,Prod.mk.injEq] at e1 e2
    rw [e1.1,e2.1]
   ·cases e2
  ·cases e1
 ·obtain ⟨p,hp,rfl⟩:=key h b hb
  obtain ⟨hm,rfl⟩:=oG hp
  have hr:r=p.1:=by
   unfold w7 at e1
   split at e1
   ·simp only [Option.some.injEq,Prod.mk.injEq] at e1;exact e1.1.symm
   ·cases e1
  intro e
  have hn:=hR.nodup
  rw [List.map_append,List.nodup_append] at hn
  exact hn.2.2 p.1 (by rw [List.map_map];exact List.mem_map.2 ⟨p,hm,rfl⟩) x.1 (List.mem_map.2 ⟨x,hx,rfl⟩) (by rw [e,hr])
def IR (H:AH) (p:PB):Bool:=match bK H p.1 with
 | some (.cells n t ty ww _)=>match Nat.beq n (fX p.2.1),Nat.beq ty p.2.2,Nat.beq ww 1 with
  | true,true,true=>pz (gy t 0 n) p.2.1
  | _,_,_=>false
 | _=>false
def AF (H:AH):List PB -> Bool
 | []=>true
 | p :: l=>match IR H p with
  | true=>AF H l
  | false=>false
theorem th {H:AH}:∀ {l:List PB},AF H l=true -> ∀ p ∈ l,IR H p=true
 | [],_,p,hp=>by simp at hp
 | q :: l,h,p,hp=>by
  rw [AF] at h
  split at h
  ·rename_i h1
   rcases List.mem_cons.1 hp with rfl | hp
   ·exact h1
   ·exact th h p hp
  ·cases h
theorem ti {H:AH}:∀ {l:List PB},AA H l=true -> ∀ p ∈ l,IQ H p=true
 | [],_,p,hp=>by simp at hp
 | q :: l,h,p,hp=>by
  rw [AA] at h
  split at h
  ·rename_i h1
   rcases List.mem_cons.1 hp with rfl | hp
   ·exact h1
   ·exact ti h p hp
  ·cases h
theorem LR.plain_eq {ν:Nu} {l l':List Value} (h:LR ν l l'):wi l=true -> l'=l:=by
 induction h with
 | nil=>intro _;rfl
 | @cons v v' l l' h _ ih =>
  intro hp
  rw [wi] at hp
  split at hp
  ·rename_i hv;rw [VRi.plain_eq h hv,ih hp]
  ·cases hp
theorem IU {ν:Nu} {H:AH} (hH:HR ν H F w) {p:PB} (hc:IR H p=true) (hp:wi p.2.1=true) (hν:ν p.1=some (p.1,p.2.1.length)):w.heap[p.1]?=some (nF p).2.den /\ ∃ b,bK H p.1=some b:=by
 unfold IR at hc
 split at hc
 case h_2=>cases hc
 rename_i n t ty ww ro hb
 split at hc
 case h_2=>cases hc
 rename_i e1 e2 e3
 have e1:=Nat.eq_of_beq_eq_true e1
 have e2:=Nat.eq_of_beq_eq_true e2
 have e3:=Nat.eq_of_beq_eq_true e3
 have e4:=AC _ _ hc
 obtain ⟨c,ty',fz,g1,g2⟩:=hH.cells hb hν
 refine ⟨?_,_,hb⟩
 have hr:=jL g2.le g2.get n 0 (by omega)
 rw [e4] at hr
 have hl:=hr.plain_eq hp
 have hsz:=g2.gr (by omega)
 rw [e3,Nat.mul_one] at hsz
 rw [dX] at e1
 rw [g1,g2.ty,g2.fz,e2]
 simp only [nF,Blk.den]
 congr 2
 apply Array.ext'
 rw [List.drop_zero] at hl
 rw [<- hl,List.take_of_length_le]
 have:c.toList.length=c.size:=rfl
 omega
theorem rd:∀ {l:List PB},(l.map (·.1)).Nodup -> ∀ {p q:PB},p ∈ l -> q ∈ l -> q.1=p.1 -> q=p
 | [],_,p,q,hp,_,_=>by simp at hp
 | x :: l,hd,p,q,hp,hq,e=>by
  simp only [List.map_cons,List.nodup_cons] at hd
  rcases List.mem_cons.1 hp with h1 | h1 <;> rcases List.mem_cons.1 hq with h2 | h2
  ·rw [h1,h2]
  ·exact absurd (List.mem_map.2 ⟨q,h2,by rw [e,h1]⟩) hd.1
  ·exact absurd (List.mem_map.2 ⟨p,h1,by rw [<- e,h2]⟩) hd.1
  ·exact rd hd.2 h1 h2 e
def Ll (tabs picks:List PB) (v0:Value):Option Rs -> Bool
 | some (.fn v H _)=>match rI v v0,qY v0,AF H tabs with
  | true,true,true=>AA H picks
  | _,_,_=>false
 | _=>false
theorem LR.plain_refl {ν:Nu}:∀ {l:List Value},wi l=true -> LR ν l l
 | [],_=>.nil
 | v :: l,h=>by
  rw [wi] at h
  split at h
  ·rename_i hv;exact .cons (VRi.plain_refl v hv) (LR.plain_refl h)
  ·cases h
theorem tj {P:Program} (hm:P.follows .mixedOrders=true) {k n0:Nat} {f:FuncId} {args:List Value} {v0:Value} (hG:Nat.ble G n0=true) (ht:xa G tabs=true) (ha:wi args=true)
  (hnd:(tabs.map (·.1)++picks.map (·.1)).Nodup) (hrun:Ll tabs picks v0 (FX P G k (.fn f args (wZ tabs) n0))=true) :
  Sp P f ⟨args⟩ (tabs.map nF) F λ v' H'=>∃ ν rest,v'=lR ν v0 /\ H'=tabs.map nF++picks.map (qZ ν rest):=by
 intro w hR
 have hG:=bL hG
 cases hres:FX P G k (.fn f args (wZ tabs) n0) with
 | none=>rw [hres] at hrun;cases hrun
 | some res=>cases res with
  | cd e s=>rw [hres] at hrun;cases hrun
  | fn v H n' =>
   rw [hres] at hrun
   simp only [Ll] at hrun
   split at hrun
   case h_2=>cases hrun
   rename_i q1 q2 q3
   rw [Ay] at hres
   obtain ⟨hn,hcall⟩:=Ah hm k _ _ hres
   have hlt:∀ p ∈ tabs,p.1 < G:=λ p hp=>(lD ht p hp).1
   refine (hcall (w7 tabs G) F w args (λ k hk=>⟨_,if_pos hk⟩) (λ h h1 h2=>by simp only [w7];rw [if_neg (by omega)]) (Lk ht hR) (LR.plain_refl ha)).mono ?_
   rintro e w' ⟨ν,v',rfl,hv,hext,hH,hbel⟩
   rw [yP _ _ q1] at hv
   have hνt:∀ p ∈ tabs,ν p.1=w7 tabs G p.1:=λ p hp=>hext.out _ (.inl (by have:=hlt p hp;omega))
   have hfind:∀ p ∈ tabs,ν p.1=some (p.1,p.2.1.length):=λ p hp=>by
    rw [hνt p hp]
    simp only [w7,if_pos (hlt p hp)]
    congr 2
    have hd:(tabs.map (·.1)).Nodup:=(List.nodup_append.1 hnd).1
    cases hf:tabs.find? (λ q=>q.1 == p.1) with
    | none=>exact absurd (List.find?_eq_none.1 hf p hp) (by simp)
    | some q =>
     obtain ⟨hq,hq2⟩:=oG hf
     have:q=p:=rd hd hp hq hq2
     simp [this]
   have htab:∀ p ∈ tabs,w'.heap[p.1]?=some (nF p).2.den /\ ∃ b,bK H p.1=some b:=λ p hp=>IU hH (th q3 p hp) (lD ht p hp).2 (hfind p hp)
   have hpk:∀ p ∈ picks,(∃ K,ν p.1=some (uu ν p.1,K)) /\ (∃ b,bK H p.1=some b) /\ w'.heap[uu ν p.1]?=some (qZ ν (oE ν w') p).2.den:=λ p hp=>F1 hH (ti hrun p hp)
   refine ⟨v',tabs.map nF++picks.map (qZ ν (oE ν w')),rfl,⟨ν,oE ν w',Az hv q2,rfl⟩,⟨?_,?_⟩,hbel⟩
   ·intro x hx
    rcases List.mem_append.1 hx with hx | hx
    ·rcases List.mem_append.1 hx with hx | hx
     ·obtain ⟨p,hp,rfl⟩:=List.mem_map.1 hx
      exact (htab p hp).1
     ·obtain ⟨p,hp,rfl⟩:=List.mem_map.1 hx
      exact (hpk p hp).2.2
    ·exact hH.frm x hx
   ·-- the handles' blocks
    have hall:∀ h ∈ tabs.map (·.1)++picks.map (·.1),∃ K b,ν h=some (uu ν h,K) /\ bK H h=some b:=λ h hh=>by
     rcases List.mem_append.1 hh with hh | hh
     ·obtain ⟨p,hp,rfl⟩:=List.mem_map.1 hh
      obtain ⟨b,hb⟩:=(htab p hp).2
      exact ⟨p.2.1.length,b,by simp [uu,hfind p hp],hb⟩
     ·obtain ⟨p,hp,rfl⟩:=List.mem_map.1 hh
      obtain ⟨⟨K,h1⟩,⟨b,hb⟩,-⟩:=hpk p hp
      exact ⟨K,b,h1,hb⟩
    have e1:(tabs.map nF++picks.map (qZ ν (oE ν w'))).map (·.1)=(tabs.map (·.1)++picks.map (·.1)).map (uu ν):=by
     simp only [List.map_append,List.map_map]
     congr 1
     apply List.map_congr_left
     intro p hp
     simp [nF,uu,hfind p hp]
    rw [List.map_append,List.nodup_append,e1]
    refine ⟨?_,?_,λ a ha b hb=>?_⟩
    ·rw [List.Nodup,List.pairwise_map]
     refine (List.pairwise_iff_forall_sublist.2 λ {a b} hs=>?_)
     have ha':=hall a (hs.subset (by simp))
     have hb':=hall b (hs.subset (by simp))
     obtain ⟨K1,b1,x1,x2⟩:=ha'
     obtain ⟨K2,b2,y1,y2⟩:=hb'
     intro e
     have hab:a=b:=hH.inj _ _ _ _ _ _ _ x2 y2 x1 (by rw [e];exact y1)
     have:=hnd.sublist hs
     simp [hab] at this
    ·have:=hR.nodup
     rw [List.map_append,List.nodup_append] at this
     exact this.2.1
    ·obtain ⟨h,hh,rfl⟩:=List.mem_map.1 ha
     obtain ⟨x,hx,rfl⟩:=List.mem_map.1 hb
     obtain ⟨K,b,g1,g2⟩:=hall h hh
     exact (hH.apt _ _ _ _ g2 g1 x hx).symm
end
end
theorem F3 {P:Program} {f:FuncId} {args:Array Value} {x:Nat × Blk} {F:HL} {Q:Value -> HL -> Prop} (hx:x ∈ F) (h:∀ F0,Sp P f args [x] F0 λ u H'=>∃ Hp,Q u Hp /\ H'=[x]++Hp):Sp P f args [] F Q:=by
 obtain ⟨l1,l2,rfl⟩:=List.append_of_mem hx
 have hp:∀ H:HL,([x]++H++(l1++l2)).Perm (H++(l1++x :: l2)):=λ H=>by
  refine List.Perm.trans ?_ (List.Perm.append_left H List.perm_middle.symm)
  show (x :: (H++(l1++l2))).Perm (H++x :: (l1++l2))
  exact List.perm_middle.symm
 intro w hR
 have hR1:Rel ([x]++(l1++l2)) w:=hR.perm (by have:=hp [];simpa using this)
 refine (h (l1++l2) w hR1).mono ?_
 rintro e w' ⟨v,H',he,⟨Hp,hq,rfl⟩,hR',hb⟩
 exact ⟨v,Hp,he,hq,hR'.perm (hp Hp).symm,hb⟩
noncomputable section
def iv (x:Int):Value:=.int .i64 x
def uw:List Value:=[iv 0,iv 0,iv 0,iv 1,iv 0,iv 1,iv 1,iv 0,iv 1,iv 1,iv 2,iv 0,iv 0,iv 1,iv 0,iv 1,iv 0,iv 1,iv 2,iv 1,iv 2,iv 1,iv 2,iv 1,iv 2,iv 1,iv 1,iv 1,iv 2,iv 1,iv 2,iv 1,iv 2,iv 1,iv 1,iv 1,iv 0,iv 0,iv 1,iv 0,iv 2,iv 0,iv 0,iv 0]
def ma:List PB:=[(1,uw,259)]
def MX:String:="on tick { n = n + 1; if n >= 3 { effect 1, n; n = 0; } }"
def MY:String:="on act { vx[self] = vx[self] + 100 * other; effect 2, self; } on hit { a[self] = a[self] + 1; effect 3, other; }"
def MZ:String:="on hit { if hit[other] == self + 1 && a[self] < a[other] { vx[self] = -vx[self]; b[self] = tick; } else { stop; } effect 4, a[self]; }"
def M2:String:="on tick { i = 0; while i < 4 { b[i] = b[i] + still[i]; i = i + 1; } s = s + x[0] / 100; effect 5, s; } on act { s = 0; }"
def M3:List Value:=[iv 2,iv 0,iv 1,iv 1,iv 9,iv 0,iv 3,iv 0,iv 1,iv 3,iv 2,iv 0,iv 15,iv 0,iv 19,iv 14,iv 1,iv 1,iv 2,iv 0,iv 20,iv 0,iv 1,iv 0,iv 3,iv 0,iv 18,iv 14,iv 21,iv 0]
def M4:List Value:=[iv 6,iv 0,iv 6,iv 0,iv 4,iv 2,iv 1,iv 100,iv 7,iv 0,iv 11,iv 0,iv 9,iv 0,iv 5,iv 2,iv 1,iv 2,iv 6,iv 0,iv 20,iv 0,iv 21,iv 0,iv 6,iv 0,iv 6,iv 0,iv 4,iv 4,iv 1,iv 1,iv 9,iv 0,iv 5,iv 4,iv 1,iv 3,iv 7,iv 0,iv 20,iv 0,iv 21,iv 0]
def M5:List Value:=[iv 7,iv 0,iv 4,iv 6,iv 6,iv 0,iv 1,iv 1,iv 9,iv 0,iv 16,iv 0,iv 19,iv 13,iv 6,iv 0,iv 4,iv 4,iv 7,iv 0,iv 4,iv 4,iv 14,iv 0,iv 18,iv 14,iv 1,iv 0,iv 19,iv 24,iv 6,iv 0,iv 6,iv 0,iv 4,iv 2,iv 13,iv 0,iv 5,iv 2,iv 6,iv 0,iv 8,iv 0,iv 5,iv 5,iv 18,iv 25,iv 21,iv 0,iv 1,iv 4,iv 6,iv 0,iv 4,iv 4,iv 20,iv 0,iv 21,iv 0]
def M6:List Value:=[iv 1,iv 0,iv 3,iv 0,iv 21,iv 0,iv 1,iv 0,iv 3,iv 1,iv 2,iv 1,iv 1,iv 4,iv 14,iv 0,iv 19,iv 21,iv 2,iv 1,iv 2,iv 1,iv 4,iv 5,iv 2,iv 1,iv 4,iv 7,iv 9,iv 0,iv 5,iv 5,iv 2,iv 1,iv 1,iv 1,iv 9,iv 0,iv 3,iv 1,iv 18,iv 5,iv 2,iv 0,iv 1,iv 0,iv 4,iv 0,iv 1,iv 100,iv 12,iv 0,iv 9,iv 0,iv 3,iv 0,iv 1,iv 5,iv 2,iv 0,iv 20,iv 0,iv 21,iv 0]
def CC (h len:Nat) (a b c:Int):Value:=.tuple ⟨[.agg ⟨[.slice (some ⟨h,0,none⟩) len ls,iv a,iv b,iv c]⟩,iv 0]⟩
def ON:Value:=.tuple ⟨[.agg ⟨[.slice none 0 0,iv (-1),iv (-1),iv (-1)]⟩,iv 0]⟩
def tn (src:String) (picks:List PB) (v:Value):Bool:=Ll ma picks v (FX Tryz.prog 4 100000 (.fn 59 [.string src.toUTF8] (wZ ma) 4))
theorem mixed:Tryz.prog.follows .mixedOrders=true:=by kernel_rfl
theorem pQ {src:String} {h:Nat} {cod:List Value} {ty:TypeId} {v:Value} {F:HL} (hh:h ≠ 1) (hq:tn src [(h,cod,ty)] v=true) :
  Sp Tryz.prog 59 #[.string src.toUTF8] (ma.map nF) F λ v' H'=>∃ ν rest,v'=lR ν v /\ H'=ma.map nF++[qZ ν rest (h,cod,ty)] :=
 tj (G:=4) (tabs:=ma) (picks:=[(h,cod,ty)]) mixed rfl rfl rfl (by simp [ma,hh.symm]) hq
theorem IV:tn "" [] ON=true:=by kernel_rfl
end
theorem IW:tn MX [(1096,M3,155)] (CC 1096 15 (-1) 0 (-1))=true:=by kernel_rfl
theorem IX:tn MY [(1805,M4,155)] (CC 1805 22 0 (-1) 12)=true:=by kernel_rfl
theorem IY:tn MZ [(2349,M5,155)] (CC 2349 30 (-1) (-1) 0)=true:=by kernel_rfl
theorem IZ:tn M2 [(2280,M6,155)] (CC 2280 32 0 3 (-1))=true:=by kernel_rfl
noncomputable section
def nG:Nat -> ByteArray
 | 0=>"".toUTF8
 | 1=>MX.toUTF8
 | 2=>MY.toUTF8
 | 3=>MZ.toUTF8
 | _=>M2.toUTF8
def oH:Nat -> List Value
 | 0=>[]
 | 1=>M3
 | 2=>M4
 | 3=>M5
 | _=>M6
def cB:Nat -> Nat
 | 0=>0
 | 1=>15
 | 2=>22
 | 3=>30
 | _=>32
def I0:Nat -> List Value
 | 0=>[iv (-1),iv (-1),iv (-1)]
 | 1=>[iv (-1),iv 0,iv (-1)]
 | 2=>[iv 0,iv (-1),iv 12]
 | 3=>[iv (-1),iv (-1),iv 0]
 | _=>[iv 0,iv 3,iv (-1)]
inductive PrgV (j:Nat):Value -> HL -> Prop
 | nil:j=0 -> PrgV j (.slice none 0 0) []
 | some (b cap:Nat) (rest:List Value):PrgV j (.slice (some ⟨b,0,none⟩) (cB j) cap) [(b,.lit (oH j++rest) 155 (0,0))]
theorem lE (ν:Nu) (h len:Nat) (a b c:Int):lR ν (CC h len a b c)=.tuple ⟨[.agg ⟨[.slice (some ⟨uu ν h,0,none⟩) len (OM ν h ls),iv a,iv b,iv c]⟩,iv 0]⟩:=by
 simp only [CC,lR,FY,FZ,iv]
theorem F4 {j:Nat} (hj:j < 5) {F:HL}:Sp Tryz.prog 59 #[.string (nG j)] (ma.map nF) F λ u H'=>∃ s Hp,PrgV j s Hp /\ u=.tuple ⟨[.agg ⟨s :: I0 j⟩,iv 0]⟩ /\ H'=ma.map nF++Hp:=by
 match j,hj with
 | 0,_ =>
  refine (tj (G:=4) (tabs:=ma) (picks:=[]) mixed rfl rfl rfl (by simp [ma]) IV).mono ?_
  rintro u H' ⟨ν,rest,rfl,rfl⟩
  exact ⟨_,[],.nil rfl,rfl,rfl⟩
 | 1,_ =>
  refine (pQ (by decide) IW).mono ?_
  rintro u H' ⟨ν,rest,rfl,rfl⟩
  exact ⟨_,_,.some _ _ _,lE ..,rfl⟩
 | 2,_ =>
  refine (pQ (by decide) IX).mono ?_
  rintro u H' ⟨ν,rest,rfl,rfl⟩
  exact ⟨_,_,.some _ _ _,lE ..,rfl⟩
 | 3,_ =>
  refine (pQ (by decide) IY).mono ?_
  rintro u H' ⟨ν,rest,rfl,rfl⟩
  exact ⟨_,_,.some _ _ _,lE ..,rfl⟩
 | 4,_ =>
  refine (pQ (by decide) IZ).mono ?_
  rintro u H' ⟨ν,rest,rfl,rfl⟩
  exact ⟨_,_,.some _ _ _,lE ..,rfl⟩
theorem I1 {j:Nat} (hj:j < 5) {F:HL} (hF:(1,Blk.lit uw 259 (0,0)) ∈ F):Sp Tryz.prog 59 #[.string (nG j)] [] F λ u H'=>∃ s,PrgV j s H' /\ u=.tuple ⟨[.agg ⟨s :: I0 j⟩,iv 0]⟩ :=
 F3 hF λ F0=>(F4 hj).mono λ u H' ⟨s,Hp,h1,h2,h3⟩=>⟨Hp,⟨s,h1,h2⟩,h3⟩
end
def bz (j k:Nat):Int:=match (I0 j)[k]? with | some (.int _ x)=>x | _=>0
def JS:List Value -> List Ins
 | .int _ a :: .int _ b :: r=>⟨a,b⟩ :: JS r
 | _=>[]
def fF (j:Nat):List Ins:=JS (oH j)
theorem kY:∀ {j:Nat},j < 5 -> (fF j).length=cB j
 | 0,_=>by kernel_rfl
 | 1,_=>by kernel_rfl
 | 2,_=>by kernel_rfl
 | 3,_=>by kernel_rfl
 | 4,_=>by kernel_rfl
 | j+5,h=>absurd h (by omega)
theorem mI:∀ {j:Nat},j < 5 -> oH j=ay gR (fF j)
 | 0,_=>by kernel_rfl
 | 1,_=>by kernel_rfl
 | 2,_=>by kernel_rfl
 | 3,_=>by kernel_rfl
 | 4,_=>by kernel_rfl
 | j+5,h=>absurd h (by omega)
theorem pR:∀ {j:Nat},j < 5 -> cB j <= 32
 | 0,_=>by decide
 | 1,_=>by decide
 | 2,_=>by decide
 | 3,_=>by decide
 | 4,_=>by decide
 | j+5,h=>absurd h (by omega)
theorem I2:∀ {j:Nat},j < 5 -> I0 j=[vI (bz j 0),vI (bz j 1),vI (bz j 2)]
 | 0,_=>by kernel_rfl
 | 1,_=>by kernel_rfl
 | 2,_=>by kernel_rfl
 | 3,_=>by kernel_rfl
 | 4,_=>by kernel_rfl
 | j+5,h=>absurd h (by omega)
abbrev md (F:HL):Prop:=(1,Blk.lit uw 259 (0,0)) ∈ F
def InsW (F:HL) (j:Nat) (A:Option Addr):Prop:=0 < cB j -> ∃ b rest,A=some ⟨b,0,none⟩ /\ (b,Blk.lit (oH j++rest) 155 (0,0)) ∈ F
structure CodT (j:Nat) (A:Option Addr) (T:HL):Prop where
 src:∀ F,(∀ x ∈ T,x ∈ F) -> SrcIn Tryz.prog gR F A (cB j) (fF j)
 wrd:∀ F,(∀ x ∈ T,x ∈ F) -> InsW F j A
theorem F5 {j:Nat} (hj:j < 5) (F:HL) (hE:md F):Sp Tryz.prog 59 #[.string (nG j)] (ap [] []) F (λ u H'=>∃ x:Option Addr × Nat × HL,H'=ap [] [x.2.2] /\ (u=.tuple #[.agg #[.slice x.1 (cB j) x.2.1,vI (bz j 0),vI (bz j 1),vI (bz j 2)],vI 0] /\ CodT j x.1 x.2.2)):=by
 refine (I1 hj hE).mono ?_
 rintro u H' ⟨s,hp,rfl⟩
 rw [I2 hj]
 cases hp with
 | nil h0 =>
  subst h0
  exact ⟨(none,0,[]),(bC _).symm,rfl,⟨λ F hF=>SrcIn.none,λ F hF h=>absurd h (by decide)⟩⟩
 | some b cap rest =>
  refine ⟨(some ⟨b,0,none⟩,cap,[(b,.lit (oH j++rest) 155 (0,0))]),(bC _).symm,rfl,⟨λ F hF=>?_,λ F hF h=>⟨b,rest,rfl,hF _ (List.mem_singleton.2 rfl)⟩⟩⟩
  have h:=SrcIn.lit DN (xs:=fF j) (rest:=rest) (ty:=155) (fz:=(0,0)) (F:=F) (q:=b) (by rw [<- mI hj];exact hF _ (List.mem_singleton.2 rfl))
  rw [kY hj] at h
  exact h
inductive Book1 (j bp:Nat):HL -> Prop
 | mk (q:Nat) (A:Option Addr) (c:Nat) (T:HL) (h:CodT j A T):Book1 j bp (ap [(bp,.lit [vS q 0 1 1] 105 (0,0)),(q,.lit [vI 0,.slice A (cB j) c,vI (bz j 0),vI (bz j 1),vI (bz j 2)] 111 (0,0))] [T])
def Lm:List Value:=[.string ⟨#[]⟩,.string ⟨#[111,110,32,116,105,99,107,32,123,32,110,32,61,32,110,32,43,32,49,59,32,105,102,32,110,32,62,61,32,51,32,123,32,101,102,102,101,99,116,32,49,44,32,110,59,32,110,32,61,32,48,59,32,125,32,125]⟩,.string ⟨#[111,110,32,97,99,116,32,123,32,118,120,91,115,101,108,102,93,32,61,32,118,120,91,115,101,108,102,93,32,43,32,49,48,48,32,42,32,111,116,104,101,114,59,32,101,102,102,101,99,116,32,50,44,32,115,101,108,102,59,32,125,32,111,110,32,104,105,116,32,123,32,97,91,115,101,108,102,93,32,61,32,97,91,115,101,108,102,93,32,43,32,49,59,32,101,102,102,101,99,116,32,51,44,32,111,116,104,101,114,59,32,125]⟩,.string ⟨#[111,110,32,104,105,116,32,123,32,105,102,32,104,105,116,91,111,116,104,101,114,93,32,61,61,32,115,101,108,102,32,43,32,49,32,38,38,32,97,91,115,101,108,102,93,32,60,32,97,91,111,116,104,101,114,93,32,123,32,118,120,91,115,101,108,102,93,32,61,32,45,118,120,91,115,101,108,102,93,59,32,98,91,115,101,108,102,93,32,61,32,116,105,99,107,59,32,125,32,101,108,115,101,32,123,32,115,116,111,112,59,32,125,32,101,102,102,101,99,116,32,52,44,32,97,91,115,101,108,102,93,59,32,125]⟩,.string ⟨#[111,110,32,116,105,99,107,32,123,32,105,32,61,32,48,59,32,119,104,105,108,101,32,105,32,60,32,52,32,123,32,98,91,105,93,32,61,32,98,91,105,93,32,43,32,115,116,105,108,108,91,105,93,59,32,105,32,61,32,105,32,43,32,49,59,32,125,32,115,32,61,32,115,32,43,32,120,91,48,93,32,47,32,49,48,48,59,32,101,102,102,101,99,116,32,53,44,32,115,59,32,125,32,111,110,32,97,99,116,32,123,32,115,32,61,32,48,59,32,125]⟩]
def Ln:Nat -> Nat -> Value:=λ i k=>match k with | 0=>.string (nG i) | _=>default
theorem xb (F:HL):Sp Tryz.prog 60 #[] [] F (λ u H'=>∃ q:Nat,H'=ap [(q,.lit Lm 9 (0,0))] [] /\ u=vS q 0 5 5):=by
 refine Sp.run Tryz.func60 rfl mn (A:=[]) (Ts:=[]) rfl λ w0=>?_
 refine ae 11 [] λ n1=>RN.ret [] [0] [] (v:=vS (n1+0) 0 5 5) (H':=(ap [((n1+0),.lit Lm 9 (0,0))] [])) ?_
 exact ⟨_,rfl,rfl⟩
theorem yU (F:HL):Sp Tryz.prog 60 #[] (ap [] []) F (λ u H'=>∃ q:Nat,H'=ap [(q,.lit Lm 9 (0,0))] [] /\ u=vS q 0 5 5):=xb F
theorem re (n:Int) (F:HL) (hn:nq n):Sp Tryz.prog 32 #[vI n] [] F (λ u H'=>u=.string (nG (au n 5).toNat) /\ H'=[]):=by
 refine Sp.run Tryz.func32 rfl mn (A:=[]) (Ts:=[]) rfl λ w0=>?_
 refine ae 7 [] λ _=>RN.ct (Hp:=[]) (Tp:=[]) [] [] (yU _) ?_
 rintro _ q1 rfl
 refine ae 1 [] λ _=>aj (fW n 5 (by decide) _) ?_
 have hA2:=cK (n:=n) hn 5 (by decide)
 refine RN.dn 0 (.rows 1 5 Ln 9 (0,0))<|ai 5 [.ix ((au n 5).toNat),.row 0 ((au n 5).toNat) 0] [(0+((au n 5).toNat) * 1)=((au n 5).toNat) * 1+0 /\ ((au n 5).toNat) < 5,au n 5=(((au n 5).toNat:Nat):Int) /\ (au n 5).toNat < 5] λ _=>?_
 exact RN.ret [] [] [] ⟨rfl,rfl⟩
theorem F6 (j:Nat) (F:HL) (hj:j < 5) (hE:md F):Sp Tryz.prog 31 #[.string (nG j)] [] F (λ u H'=>∃ x:Nat × HL,H'=ap [] [x.2] /\ (u=.tuple #[vP x.1 0,vI 0] /\ Book1 j x.1 x.2)):=by
 refine Sp.run Tryz.func31 rfl mn (A:=[]) (Ts:=[]) rfl λ w0=>?_
 refine ae 9 [] λ _=>RN.ct (Hp:=[]) (Tp:=[]) [] [] (F5 hj _ (aw hE)) ?_
 rintro _ ⟨A1,c2,T3⟩ ⟨rfl,hC4⟩
 dsimp only at hC4
 refine ae 29 (ow 0 8) λ n5=>RN.ret [] [0,1] [0] (v:=.tuple #[vP (n5+2) 0,vI 0]) (H':=(ap [((n5+2),.lit [vS (n5+1) 0 1 1] 105 (0,0)),((n5+1),.lit [vI 0,.slice A1 (cB j) c2,vI (bz j 0),vI (bz j 1),vI (bz j 2)] 111 (0,0))] [T3])) ?_
 exact ⟨((n5+2),ap [((n5+2),.lit [vS (n5+1) 0 1 1] 105 (0,0)),((n5+1),.lit [vI 0,.slice A1 (cB j) c2,vI (bz j 0),vI (bz j 1),vI (bz j 2)] 111 (0,0))] [T3]),by simp [ap],rfl,.mk _ _ _ _ hC4⟩
theorem F7 (j:Nat) (F:HL) (hj:j < 5) (hE:md F):Sp Tryz.prog 31 #[.string (nG j)] (ap [] []) F (λ u H'=>∃ x:Nat × HL,H'=ap [] [x.2] /\ (u=.tuple #[vP x.1 0,vI 0] /\ Book1 j x.1 x.2)):=F6 j F hj hE
open Go.Shelf
def SpD (P:Program) (f:FuncId) (args:Array Value) (H F:HL) (R:Value -> HL -> Prop):Prop :=
 ∀ w,Rel (H++F) w -> CallsDIn (Wr none) 0 P f args .returning w λ e u' w'=>u'=.returning /\ ∃ v H',e=.returned v /\ R v H' /\ Rel (H'++F) w' /\ Below 0 w w'
theorem SpD.mono {P:Program} {f:FuncId} {args:Array Value} {H F:HL} {R R':Value -> HL -> Prop} (h:SpD P f args H F R) (hr:∀ v H',R v H' -> R' v H'):SpD P f args H F R' :=
 λ w hR=>(h w hR).mono λ e u' w' ⟨h0,v,H',h1,h2,h3,h4⟩=>⟨h0,v,H',h1,hr _ _ h2,h3,h4⟩
section
variable {r:Option Nat} {P:Program} {N:Nat} {D:List Deferred} {F:HL} {w0:World} {R:HL} {s:Cfg} {Q:Exit -> Act -> World -> Prop}
def dfR (N:Nat) (s:Cfg):Option (FuncId × Array Value × Array Value):=match rN s with
 | some o=>match o.guard,o.op,(fe N o.dst undef s.L).isSome with
  | none,.defer c,true=>match c.callee with
   | .value f=>match mO s.L f && c.args.toList.all (mO s.L) with
    | true=>match jd s.L f with
     | .func (.func g) first cap=>some (g,first++c.args.map (jd s.L),cap)
     | _=>none
    | false=>none
   | _=>none
  | _,_,_=>none
 | none=>none
abbrev M7 (g:FuncId) (args cap:Array Value):Deferred:={ target:=.fn (.func g) cap,args:=args }
theorem AG {L:FL} {a:Act} (hF:Fm N D L a):∀ (l:List Operand),l.all (mO L)=true -> l.map a.eval=l.map (jd L)
 | [],_=>rfl
 | x :: l,h=>by
  rw [List.all_cons,Bool.and_eq_true] at h
  rw [List.map_cons,List.map_cons,hF.eval h.1,AG hF l h.2]
theorem M8 {g:FuncId} {args cap:Array Value} (hk:RN none P N (M7 g args cap :: D) F w0 R (fO N undef s) Q) (h:dfR N s=some (g,args,cap):=by kernel_rfl):RN none P N D F w0 R s Q:=by
 refine ⟨λ hR a w hF hRel hB=>?_⟩
 obtain ⟨cc,kk,L,A,Ts⟩:=s
 unfold dfR at h
 split at h
 case h_2=>cases h
 rename_i o q0
 split at h
 case h_2=>cases h
 rename_i c q1 q2 q3
 split at h
 case h_2=>cases h
 rename_i f q4
 split at h
 case h_2=>cases h
 rename_i q5
 split at h
 case h_2=>cases h
 rename_i g' first cap' q6
 simp only [Option.some.injEq,Prod.mk.injEq] at h
 obtain ⟨e1,e2,e3⟩:=h
 subst e1;subst e2;subst e3
 unfold rN at q0
 cases cc with
 | code c=>cases q0
 | ex c=>cases q0
 | drw _ _=>cases q0
 | ops ops j =>
  simp only at q0 q3 q5 q6 hF hRel
  have hdrop:ops.toList.drop j=o :: ops.toList.drop (j+1):=by
   have hlt:j < ops.toList.length:=(List.getElem?_eq_some_iff.1 q0).1
   rw [List.drop_eq_getElem_cons hlt,(List.getElem?_eq_some_iff.1 q0).2]
  show wpListIn _ _ _ _ _ _ _ _
  rw [hdrop,wpListIn,if_pos (by simp [Region.wanted,q1])]
  refine ⟨λ _ _=>trivial,?_⟩
  rw [Bool.and_eq_true] at q5
  obtain ⟨L',hl⟩:=eU q3 undef
  have hpc:fO N undef ⟨.ops ops j,kk,L,A,Ts⟩=⟨.ops ops (j+1),kk,L',A,Ts⟩:=by
   unfold fO
   simp only [q0,hl]
  have hh:=hk.h hR
  rw [hpc] at hh
  have hargs:c.args.map a.eval=c.args.map (jd L):=by
   apply Array.ext'
   rw [Array.toList_map,Array.toList_map]
   exact AG hF _ q5.2
  have e1:a.eval f=.func (.func g') first cap':=(hF.eval q5.1).trans q6
  have hex:(o.semAt (Wr none).round a.eval).run P w=.ok (.defer (M7 g' (first++c.args.map (jd L)) cap')) w:=by
   show (Oper.semAt none a.eval o).run P w=_
   rw [Oper.semAt_none]
   simp only [execOp,q2,resolve,q4,e1,Deferred.ofValue,Sem.run_bind,hargs]
   rfl
  rw [hex,Oper.uponIn_defer]
  have hF':Fm N (M7 g' (first++c.args.map (jd L)) cap' :: D) L { a with defers:=M7 g' (first++c.args.map (jd L)) cap' :: a.defers }:=⟨hF.size,by rw [<- hF.defs],hF.has⟩
  exact hh _ w (hF'.put hl) hRel hB
structure LV (P:Program) (N:Nat) (D:List Deferred) (F:HL) (w0:World) (R:HL) (fn:Func) (R':Value -> HL -> Prop) (s:Cfg):Prop where
 h:(∀ y ∈ R,y ∈ F) -> ∀ a w,Fm N D s.L a -> Rel (ap s.A s.Ts++F) w -> Below 0 w0 w -> LeavesInM (Wr none) 0 P fn a.tmps (zw F w0 R') a.defers .returning w
theorem M9 {fn:Func} {R':Value -> HL -> Prop} (hk:LV P N D F w0 R fn R' s) (hc:mr s=true:=by kernel_rfl):RN none P N D F w0 R s (bodyPostM (Wr none) 0 P fn (zw F w0 R')):=by
 refine ⟨λ hR a w hF hRel hB=>?_⟩
 have key:=hk.h hR a w hF hRel hB
 exact nT hc key key
def Na (ip jp:List Nat) (Hq:HL) (Tq:List HL) (s:Cfg):Cfg:=uT (λ A=>Hq++(oth ip A.length).filterMap (A[·]?)) (λ Ts=>Tq++(oth jp Ts.length).filterMap (Ts[·]?)) s
theorem Nb {τ:Type} {fn:Func} {R':Value -> HL -> Prop} {g:FuncId} {args cap:Array Value} (eg:∀ args w,(callFunc g args).run P w=.ok (.enter g args) w) (ip jp:List Nat) {Hp:HL} {Tp:List HL} {Hq:τ -> HL} {Tq:τ -> List HL} {Rv:Value -> τ -> Prop}
  (hc:SpD P g (args++cap) (ap Hp Tp) (ap (eJ ip s) (fD jp s)++F) (λ v H'=>∃ x,H'=ap (Hq x) (Tq x) /\ Rv v x)) (hk:∀ v x,Rv v x -> LV P N D F w0 R fn R' (Na ip jp (Hq x) (Tq x) s))
  (hp:b9 ip jp s=true:=by kernel_rfl) (hH:picks ip jp s=(Hp,Tp):=by kernel_rfl):LV P N (M7 g args cap :: D) F w0 R fn R' s:=by
 unfold b9 at hp
 unfold picks at hH
 rw [Bool.and_eq_true] at hp
 simp only [Prod.mk.injEq] at hH
 obtain ⟨e1,e2⟩:=hH
 refine ⟨λ hR a w hF hRel hB=>?_⟩
 have hperm:(ap Hp Tp++ap (eJ ip s) (fD jp s)).Perm (ap s.A s.Ts):=by
  have h1:=lh s.A s.Ts ip (oth ip s.A.length) jp (oth jp s.Ts.length) hp.1 hp.2
  rw [e1,e2] at h1
  exact h1
 have hR1:Rel (ap Hp Tp++(ap (eJ ip s) (fD jp s)++F)) w:=by rw [<- List.append_assoc];exact hRel.perm (hperm.append_right F)
 rw [hF.defs]
 refine ⟨by simp,.inr ⟨(λ h=>by cases h),.func g,cap,g,args++cap,rfl,?_,λ _ _=>trivial,?_⟩⟩
 ·show (callFunc g (args++cap)).run P w=_
  exact eg _ _
 ·refine (hc w hR1).mono ?_
  rintro e u' w' ⟨rfl,v,H',rfl,⟨x,rfl,hv⟩,hR2,hB2⟩
  have:=(hk v x hv).h hR { a with defers:=D } w' ⟨hF.size,rfl,hF.has⟩ ?_ (hB.trans hB2)
  ·exact this
  ·unfold Na
   rw [pE.1,pE.2.1]
   refine hR2.perm ?_
   exact (tI _ _ _ _ _).symm
theorem I3 {fn:Func} {R':Value -> HL -> Prop} (hints:List Hint) (Ob:List Prop) (hob:AllP Ob) (ip jp:List Nat) {v:Value} {H':HL} (hv:R' v H')
  (h:∀ n0,jx P n0 fn.results.toList R hints s=some (v,mX (jx P n0 fn.results.toList R hints s),mX (jx P n0 fn.results.toList R hints s),Ob):=by intro n0;kernel_rfl)
  (hp:b9 ip jp s=true:=by kernel_rfl) (hH:ap (picks ip jp s).1 (picks ip jp s).2=H':=by kernel_rfl):LV P N [] F w0 R fn R' s:=by
 unfold b9 at hp
 unfold picks at hH
 refine ⟨λ hR a w hF hRel hB=>?_⟩
 rw [Bool.and_eq_true] at hp
 have h':=h w.heap.size
 unfold jx xG at h'
 split at h'
 case h_2=>cases h'
 rename_i vs ss hs
 split at h'
 case h_2=>cases h'
 simp only [mX,Option.some.injEq,Prod.mk.injEq] at h'
 obtain ⟨e1,-,e3,e4⟩:=h'
 have hrun:=ju (P:=P) hF hRel fn.results.toList _ _ _ hs rfl rfl hR (λ e=>by cases e) (fG rfl e3) (by rw [e4];exact AllP.mem hob)
 subst e1
 rw [hF.defs]
 exact ⟨_,iX (by simp) hrun,_,H',rfl,hv,hRel.takeT ip _ jp _ hp.1 hp.2 hH,hB⟩
theorem LV.ret {fn:Func} {R':Value -> HL -> Prop} (hints:List Hint) (ip jp:List Nat) {v:Value} {H':HL} (hv:R' v H')
 (h:∀ n0,jx P n0 fn.results.toList R hints s=some (v,mX (jx P n0 fn.results.toList R hints s),mX (jx P n0 fn.results.toList R hints s),[]):=by intro n0;kernel_rfl)
 (hp:b9 ip jp s=true:=by kernel_rfl) (hH:ap (picks ip jp s).1 (picks ip jp s).2=H':=by kernel_rfl):LV P N [] F w0 R fn R' s:=I3 hints [] trivial ip jp hv h hp hH
end
end Go.Proofs.YtgdcbiiopbpgaaaGreatDoor
