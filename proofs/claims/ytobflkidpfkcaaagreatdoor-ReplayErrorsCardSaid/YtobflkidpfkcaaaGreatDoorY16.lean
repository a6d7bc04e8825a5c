import Derived.Test.YtobflkidpfkcaaaGreatDoorY01
import Derived.RangeFuncLeaves
import Derived.RecoverIn
import Derived.OrdersIn
set_option maxHeartbeats 4000000
set_option maxRecDepth 100000
set_option linter.unusedSimpArgs false
set_option linter.unusedVariables false
namespace Go.Proofs.YtobflkidpfkcaaaGreatDoor
open Go.RowKit
noncomputable section
inductive Tr (α:Type) where
 | lf
 | nd (v:α) (l r:Tr α)
noncomputable def fJ {α:Type} (d:α) (p:List Bool):Tr α -> α :=
 List.rec (motive:=λ _=>Tr α -> α) (λ t=>Tr.rec (motive:=λ _=>α) d (λ v _ _ _ _=>v) t) (λ b _ ih t=>Tr.rec (motive:=λ _=>α) d (λ _ l r _ _=>Bool.rec (motive:=λ _=>α) (ih l) (ih r) b) t) p
noncomputable def dK {α:Type} (d x:α) (p:List Bool):Tr α -> Tr α :=
 List.rec (motive:=λ _=>Tr α -> Tr α) (λ t=>Tr.rec (motive:=λ _=>Tr α) (.nd x .lf .lf) (λ _ l r _ _=>.nd x l r) t)
  (λ b _ ih t=>Tr.rec (motive:=λ _=>Tr α) (Bool.rec (motive:=λ _=>Tr α) (.nd d (ih .lf) .lf) (.nd d .lf (ih .lf)) b) (λ v l r _ _=>Bool.rec (motive:=λ _=>Tr α) (.nd v (ih l) r) (.nd v l (ih r)) b) t) p
noncomputable def Fa (k:Nat):Nat -> List Bool :=
 Nat.rec (motive:=λ _=>Nat -> List Bool) (λ _=>[]) (λ _ ih i=>Nat.rec (motive:=λ _=>List Bool) [] (λ i _=>Nat.beq (i % 2) 1 :: ih (i / 2)) i) k
noncomputable def pth (i:Nat):List Bool:=Fa i i
noncomputable def Tr.get {α:Type} (d:α) (t:Tr α) (i:Nat):α:=fJ d (pth i) t
noncomputable def Tr.set {α:Type} (d x:α) (t:Tr α) (i:Nat):Tr α:=dK d x (pth i) t
def dD {α:Type} (d:α):List α -> Nat -> Tr α -> Tr α
 | [],_,t=>t
 | x :: l,i,t=>match Tr.set d x t i with
  | .lf=>dD d l (i+1) .lf
  | .nd a b c=>dD d l (i+1) (.nd a b c)
def KY {α:Type} (d:α) (t:Tr α) (i:Nat):Nat -> List α
 | 0=>[]
 | n+1=>t.get d i :: KY d t (i+1) n
mutual
def pl:Value -> Bool
 | .pointer (some _)=>false
 | .slice (some _) _ _=>false
 | .map (some _)=>false
 | .chan _=>false
 | .func fn first captured=>match fn with
  | .func _=>match JZ first with
   | true=>JZ captured
   | false=>false
  | _=>false
 | .iface _ v=>pl v
 | .agg cs=>JZ cs
 | .tuple cs=>JZ cs
 | _=>true
def JZ:Array Value -> Bool
 | ⟨l⟩=>wa l
def wa:List Value -> Bool
 | []=>true
 | v :: l=>match pl v with
  | true=>wa l
  | false=>false
end
inductive AB where
 | cells (n:Nat) (t:Tr Value) (ty:TypeId) (w:Nat) (ro:Bool)
 | map (es:List (Value × Value × Nat)) (clock:Nat)
 | loop (st:LoopState) (pend:Option Code) (T:Tr Value) (N:Nat) (ps:Array Tmp) (assign body:Code) (defers:Nat)
 | dfr (shut:Bool)
abbrev AH:=Tr (Option AB)
structure St where
 T:Tr Value
 D:List Deferred
 H:AH
 n:Nat
abbrev bO (H:AH) (h:Nat):Option AB:=Tr.get none H h
abbrev cP (H:AH) (h:Nat) (b:Option AB):AH:=Tr.set none b H h
abbrev cQ (T:Tr Value) (t:Nat):Value:=Tr.get undef T t
abbrev rQ (T:Tr Value) (t:Nat) (v:Value):Tr Value:=Tr.set undef v T t
def lm:Nat:=9223372036854775808
def ael (T:Tr Value):Operand -> Value
 | .tmp t=>cQ T t
 | .const v=>v
 | .global g=>.pointer (some ⟨g,0,none⟩)
 | .func f=>.func (.func f) #[] #[]
def N5 (G:Nat):Operand -> Bool
 | .tmp _=>true
 | .const v=>pl v
 | .global g=>Nat.blt g G
 | .func _=>true
def iG:Op -> Option (List Operand)
 | .defer c=>match c.callee with
  | .value f=>some (f :: c.args.toList)
  | _=>none
 | o=>cf o
def rR (G:Nat):List Operand -> Bool
 | []=>true
 | x :: l=>match N5 G x with
  | true=>rR G l
  | false=>false
def uc (T:Tr Value):List Operand -> Bool
 | []=>true
 | x :: l=>match pl (ael T x) with
  | true=>uc T l
  | false=>false
def wb (P:Program) {α:Type}:Sem α -> Option α
 | .pure a=>some a
 | .program k=>wb P (k P)
 | .mark _ k=>wb P k
 | _=>none
def Fb (op:BinOp) (a b:Int):Option Bool:=match op with
 | .lss=>some (decide (a < b))
 | .leq=>some (decide (a <= b))
 | .gtr=>some (decide (a > b))
 | .geq=>some (decide (a >= b))
 | .eql=>some (a == b)
 | .neq=>some (a != b)
 | _=>none
def Fc:Value -> Value -> Option Bool
 | .pointer none,.pointer b=>some b.isNone
 | .pointer (some _),.pointer none=>some false
 | .slice none _ _,.slice b _ _=>some b.isNone
 | .slice (some _) _ _,.slice none _ _=>some false
 | .map none,.map b=>some b.isNone
 | .map (some _),.map none=>some false
 | .nilFunc,.nilFunc=>some true
 | .nilFunc,.func _ _ _=>some false
 | .func _ _ _,.nilFunc=>some false
 | .nilIface,.iface _ _=>some false
 | .iface _ _,.nilIface=>some false
 | _,_=>none
def IE (P:Program) (t:TypeId) (u:Value):Bool:=match P.underlying t with
 | some (.pointer _)=>match u with | .pointer _=>true | _=>false
 | some (.slice _)=>match u with | .slice _ _ _=>true | _=>false
 | some (.map _ _)=>match u with | .map _=>true | _=>false
 | some (.func _ _ _)=>match u with | .nilFunc=>true | .func _ _ _=>true | _=>false
 | some (.interface _)=>match u with | .nilIface=>true | .iface _ _=>true | _=>false
 | _=>false
def wc (P:Program) (t:TypeId):Bool:=match P.underlying t with
 | some (.struct _)=>false
 | some (.array _ _)=>false
 | some _=>true
 | none=>false
def yz (P:Program) (t:TypeId):Option Nat:=match P.underlying t with
 | some (.struct _)=>(P.info? t).map (·.size)
 | some (.array _ _)=>(P.info? t).map (·.size)
 | _=>none
def eM (P:Program) (t:TypeId):Option Nat:=(P.info? t).map (·.size)
def wg (P:Program) (t:TypeId) (j:Nat):Option (Nat × TypeId):=match P.underlying t with
 | some (.struct fs)=>match fs[j]? with
  | some f=>match P.info? f.type with
   | some inf=>match inf.size with
    | 0=>none
    | _+1=>some (f.offset,f.type)
   | none=>none
  | none=>none
 | _=>none
def nu:List Value -> Nat -> Option Value
 | [],_=>none
 | v :: l,i=>match i with
  | 0=>some v
  | i+1=>nu l i
def sJ:List Value -> Nat -> List Value
 | [],_=>[]
 | v :: l,i=>match i with
  | 0=>v :: l
  | i+1=>sJ l i
def sK:List Value -> Nat -> List Value
 | [],_=>[]
 | v :: l,i=>match i with
  | 0=>[]
  | i+1=>v :: sK l i
def ko:List Value -> List Value -> Option (List Value)
 | [],l=>some l
 | _ :: _,[]=>none
 | v :: vs,_ :: l=>match ko vs l with
  | some l=>some (v :: l)
  | none=>none
def eO (vs:List Value):List Value -> Nat -> Option (List Value)
 | [],i=>match i with
  | 0=>ko vs []
  | _+1=>none
 | x :: l,i=>match i with
  | 0=>ko vs (x :: l)
  | i+1=>match eO vs l i with
   | some l=>some (x :: l)
   | none=>none
def gF:Value -> List Value
 | .agg cs=>cs.toList
 | v=>[v]
def fW:List Value -> Nat
 | []=>0
 | _ :: l=>Nat.succ (fW l)
def nv (P:Program) (t:TypeId) (cs:List Value) (off:Nat):Option Value:=match wc P t with
 | true=>nu cs off
 | false=>match yz P t with
  | some k=>some (.agg ⟨sK (sJ cs off) k⟩)
  | none=>none
def kq (place:Nat -> Option (Nat × Nat)):List (Nat × Value) -> List Value -> Option (List Value)
 | [],l=>some l
 | (i,v) :: ps,l=>match place i with
  | some (off,k+1)=>match Nat.beq (fW (gF v)) (k+1) with
   | false=>none
   | true=>match eO (gF v) l off with
    | some l=>kq place ps l
    | none=>none
  | _=>none
def ud (T:Tr Value):List (Nat × Operand) -> List (Nat × Value)
 | []=>[]
 | (i,x) :: l=>(i,ael T x) :: ud T l
def kr (P:Program) (t:TypeId):Option (List Value):=match P.info? t with
 | some i=>match i.zero with
  | some z=>match pl z with
   | true=>some (gF z)
   | false=>none
  | none=>none
 | none=>none
def jF (P:Program):List Field -> Option (List (Nat × Nat))
 | []=>some []
 | f :: fs=>match eM P f.type,jF P fs with
  | some k,some l=>some ((f.offset,k) :: l)
  | _,_=>none
def Fd:List (Nat × Nat) -> Nat -> Option (Nat × Nat)
 | [],_=>none
 | v :: l,i=>match i with
  | 0=>some v
  | i+1=>Fd l i
def yA (P:Program) (t:TypeId) (parts:List (Nat × Value)):Option Value:=match kr P t with
 | some z=>match P.underlying t with
  | some (.struct fs)=>match jF P fs.toList with
   | some pls=>match kq (Fd pls) parts z with
    | some l=>some (.agg ⟨l⟩)
    | none=>none
   | none=>none
  | some (.array _ el)=>match eM P el with
   | some k=>match kq (λ i=>some (i * k,k)) parts z with
    | some l=>some (.agg ⟨l⟩)
    | none=>none
   | none=>none
  | _=>none
 | none=>none
def lK (z:List Value):Nat -> List Value
 | 0=>[]
 | n+1=>z++lK z n
def mv (T:Tr Value):List Operand -> List Value
 | []=>[]
 | x :: l=>ael T x :: mv T l
def Hz:Value -> Option Nat
 | .int _ (.ofNat n)=>some n
 | _=>none
def ue (T:Tr Value) (d:Nat):Option Operand -> Option Nat
 | none=>some d
 | some x=>Hz (ael T x)
def yB (a:Addr) (k:Nat):Addr:=match k with
 | 0=>a
 | k+1=>⟨a.block,a.off+(k+1),none⟩
def yC (P:Program) (t:TypeId) (v:Value):Option Nat:=match P.underlying t,v with
 | some (.slice _),.slice _ n _=>some n
 | some .string,.string s=>some s.size
 | _,_=>none
def KZ (P:Program):Call -> Option (Operand × TypeId)
 | ⟨.builtin .len,⟨[x]⟩,⟨[t]⟩⟩=>match P.underlying t with
  | some (.slice _)=>some (x,t)
  | some .string=>some (x,t)
  | _=>none
 | _=>none
def OE:Call -> Bool
 | ⟨.builtin .min,_,_⟩=>true
 | ⟨.builtin .max,_,_⟩=>true
 | _=>false
inductive Cl where
 | pu | lo | nw | ef
def OG (P:Program) (c:Call):Cl:=match KZ P c with
 | some _=>.pu
 | none=>match OE c with
  | true=>.pu
  | false=>.ef
def rD (P:Program):Op -> Cl
 | .alloc _ | .box _ _ | .buildSlice _ _ _ | .makeSlice _ _ _ | .makeMap _ _=>.nw
 | .load _ _ | .lookup _ _ _ _ | .slice _ _ _ _ _=>.lo
 | .store _ _ _ | .mapUpdate _ _ _ _ | .insert _ _ _ _ | .defer _=>.ef
 | .call c=>OG P c
 | _=>.pu
def fX (P:Program) (T:Tr Value) (o:Oper):Option Value:=match cf o.op with
 | some l=>match uc T l with
  | true=>match wb P (execOp (ael T) o) with
   | some (.value v)=>match pl v with
    | true=>some v
    | false=>none
   | _=>none
  | false=>none
 | none=>none
def gw (P:Program) (o:Oper) (T:Tr Value):Option Value:=match o.op with
 | .move x=>some (ael T x)
 | .assign x=>some (ael T x)
 | .pick c a b=>match ael T c with
  | .bool true=>some (ael T a)
  | .bool false=>some (ael T b)
  | _=>none
 | .build t parts=>yA P t (ud T parts.toList)
 | .nilCheck x=>match ael T x with
  | .pointer (some a)=>some (.pointer (some a))
  | .func (.func f) first captured=>some (.func (.func f) first captured)
  | .iface t v=>some (.iface t v)
  | _=>none
 | .binOp op t x y _=>match ael T x,ael T y with
  | .int k a,.int k' b=>match Fb op a b with
   | some r=>match decide (k=k') with
    | true=>some (.bool r)
    | false=>none
   | none=>fX P T o
  | u,v=>match Fc u v with
   | some r=>match IE P t u,op with
    | true,.eql=>some (.bool r)
    | true,.neq=>some (.bool (!r))
    | _,_=>none
   | none=>fX P T o
 | .makeInterface t x=>match P.underlying t with
  | some (.interface _)=>none
  | some _=>some (.iface t (ael T x))
  | none=>none
 | .makeFunc fn first captured=>match fn with
  | .func f=>some (.func (.func f) ⟨mv T first.toList⟩ ⟨mv T captured.toList⟩)
  | _=>none
 | .fieldAddr t x j=>match ael T x,wg P t j with
  | .pointer (some a),some (k,_)=>some (.pointer (some (yB a k)))
  | _,_=>none
 | .field t x j=>match ael T x,wg P t j with
  | .agg cs,some (k,ft)=>nv P ft cs.toList k
  | _,_=>none
 | .indexAddr t x i=>match P.underlying t,ael T x,Hz (ael T i) with
  | some (.slice el),.slice (some a) n _,some i=>match Nat.blt i n,eM P el with
   | true,some k=>some (.pointer (some (yB a (i * k))))
   | _,_=>none
  | some (.array n el),.pointer (some a),some i=>match Nat.blt i n,eM P el with
   | true,some k=>some (.pointer (some (yB a (i * k))))
   | _,_=>none
  | _,_,_=>none
 | .index t x i=>match P.underlying t,ael T x,Hz (ael T i) with
  | some (.array n el),.agg cs,some i=>match Nat.blt i n,eM P el with
   | true,some k=>nv P el cs.toList (i * k)
   | _,_=>none
  | _,_,_=>fX P T o
 | .extract x i=>match ael T x with
  | .tuple cs=>nu cs.toList i
  | _=>none
 | .call c=>match KZ P c with
  | some (x,t)=>match yC P t (ael T x) with
   | some n=>some (.int .i64 (.ofNat n))
   | none=>none
  | none=>fX P T o
 | _=>fX P T o
def gx (t:Tr Value) (i:Nat):Nat -> List Value
 | 0=>[]
 | k+1=>cQ t i :: gx t (i+1) k
def sL (P:Program) (t:TypeId) (H:AH) (a:Addr):Option Value:=match a.spot,bO H a.block with
 | none,some (.cells n tr _ _ _)=>match wc P t with
  | true=>match Nat.blt a.off n with
   | true=>some (cQ tr a.off)
   | false=>none
  | false=>match yz P t with
   | some k=>match Nat.ble (a.off+k) n with
    | true=>some (.agg ⟨gx tr a.off k⟩)
    | false=>none
   | none=>none
 | _,_=>none
def kR:Value -> Value -> Option Bool
 | .int k a,.int k' b=>match decide (k=k') with
  | true=>some (a == b)
  | false=>none
 | .string a,.string b=>some (a == b)
 | .bool a,.bool b=>some (a == b)
 | _,_=>none
def Ff (P:Program) (t:TypeId) (k:Value):Bool:=match P.underlying t,k with
 | some (.int _),.int _ _=>true
 | some .string,.string _=>true
 | some .bool,.bool _=>true
 | _,_=>false
def wh (k:Value):List (Value × Value × Nat) -> Option (Option Value)
 | []=>some none
 | (k',v,_) :: l=>match kR k k' with
  | some true=>some (some v)
  | some false=>wh k l
  | none=>none
def Ad (P:Program) (t:TypeId):Option Value:=match P.info? t with
 | some i=>match i.zero with
  | some z=>match pl z with
   | true=>some z
   | false=>none
  | none=>none
 | none=>none
def Ae (ok:Bool) (v:Value) (b:Bool):Value:=match ok with
 | true=>.tuple ⟨[v,.bool b]⟩
 | false=>v
def Fg (P:Program) (t:TypeId) (H:AH) (m k:Value) (ok:Bool):Option Value:=match P.underlying t with
 | some (.map kt et)=>match Ff P kt k with
  | true=>match m with
   | .map none=>match Ad P et with
    | some z=>some (Ae ok z false)
    | none=>none
   | .map (some r)=>match bO H r with
    | some (.map es _)=>match wh k es with
     | some (some v)=>some (Ae ok v true)
     | some none=>match Ad P et with
      | some z=>some (Ae ok z false)
      | none=>none
     | none=>none
    | _=>none
   | _=>none
  | false=>none
 | _=>none
def Af (a:Addr) (m l k:Nat):Addr:=match Nat.beq m l with
 | true=>a
 | false=>yB a (l * k)
def uf (k:Nat) (base:Option Addr) (l h m c:Nat):Option Value:=match Nat.ble l h,Nat.ble h m,Nat.ble m c with
 | true,true,true=>match base with
  | none=>some (.slice none (h - l) (m - l))
  | some a=>match a.spot with
   | none=>some (.slice (some (Af a m l k)) (h - l) (m - l))
   | some _=>none
 | _,_,_=>none
def Fh (H:AH) (k:Nat) (a:Addr) (l h c:Nat) (m:Option Nat):Option Value:=match a.spot,bO H a.block with
 | none,some (.cells nn _ _ w _)=>match Nat.beq w k,Nat.blt 0 w,Nat.ble l h,Nat.ble ((c - lm+h) * w) nn with
  | true,true,true,true=>match m with
   | none=>match Nat.blt l h with
    | true=>some (.slice (some (yB a (l * k))) (h - l) (c+l))
    | false=>match l with
     | 0=>some (.slice (some a) 0 c)
     | _+1=>none
   | some m=>match Nat.ble h m,Nat.ble ((c - lm+m) * w) nn,Nat.blt m lm with
    | true,true,true=>some (.slice (some (Af a m l k)) (h - l) (m - l))
    | _,_,_=>none
  | _,_,_,_=>none
 | _,_=>none
def MS (hi mx:Option Operand):Bool:=match mx,hi with
 | some _,none=>false
 | _,_=>true
def K3 (T:Tr Value):Option Operand -> Option (Option Nat)
 | none=>some none
 | some x=>match Hz (ael T x) with
  | some n=>some (some n)
  | none=>none
def yD (P:Program) (t:TypeId) (H:AH) (T:Tr Value) (x:Value) (lo hi mx:Option Operand):Option Value:=match MS hi mx with
 | false=>none
 | true=>match P.underlying t with
  | some (.slice el)=>match x with
   | .slice base n c=>match eM P el,ue T 0 lo,ue T n hi with
    | some k,some l,some h=>match Nat.blt c lm with
     | true=>match ue T c mx with
      | some m=>uf k base l h m c
      | none=>none
     | false=>match base,K3 T mx with
      | some a,some m=>Fh H k a l h c m
      | _,_=>none
    | _,_,_=>none
   | _=>none
  | some (.array n el)=>match x with
   | .pointer (some a)=>match eM P el,ue T 0 lo,ue T n hi,ue T n mx with
    | some k,some l,some h,some m=>match Nat.blt n lm with
     | true=>uf k (some a) l h m n
     | false=>none
    | _,_,_,_=>none
   | _=>none
  | _=>none
def ja (P:Program) (o:Oper) (T:Tr Value) (H:AH):Option Value:=match o.op with
 | .load t x=>match ael T x with
  | .pointer (some a)=>sL P t H a
  | _=>none
 | .lookup t m k ok=>Fg P t H (ael T m) (ael T k) ok
 | .slice t x lo hi mx=>match P.underlying t with
  | some .string=>fX P T o
  | _=>yD P t H T (ael T x) lo hi mx
 | _=>none
inductive Mk where
 | ptr | sl (n c:Nat) | mp
def Mk.val:Mk -> Nat -> Value
 | .ptr,h=>.pointer (some ⟨h,0,none⟩)
 | .sl n c,h=>.slice (some ⟨h,0,none⟩) n c
 | .mp,h=>.map (some h)
def jo (l:List Value) (ty:TypeId):AB:=match dD undef l 0 .lf with
 | .lf=>.cells (fW l) .lf ty 0 false
 | .nd a b c=>.cells (fW l) (.nd a b c) ty 0 false
def sM (P:Program) (t:TypeId):Option TypeId:=match P.underlying t with
 | some (.slice el)=>some el
 | _=>none
def rS (P:Program) (o:Oper) (T:Tr Value):Option (AB × Mk):=match o.op with
 | .alloc t=>match kr P t with
  | some z=>some (jo z t,.ptr)
  | none=>none
 | .box t x=>some (jo (gF (ael T x)) t,.ptr)
 | .buildSlice t len parts=>match sM P t with
  | some el=>match eM P el,kr P el with
   | some k,some z=>match Nat.ble (len * k) 16777216,Nat.beq (fW z) k,Nat.blt 0 k with
    | true,true,true=>match kq (λ i=>some (i * k,k)) (ud T parts.toList) (lK z len) with
     | some l=>some (jo l el,.sl len len)
     | none=>none
    | _,_,_=>none
   | _,_=>none
  | none=>none
 | .makeSlice t l c=>match sM P t with
  | some el=>match P.info? el with
   | some inf=>match kr P el,Hz (ael T l),Hz (ael T c) with
    | some z,some n,some m=>match Nat.ble n m,Nat.ble (inf.bytes * m) 281474976710656,Nat.blt m lm,Nat.beq (fW z) inf.size,Nat.blt 0 inf.size,Nat.blt 0 inf.bytes with
     | true,true,true,true,true,true=>some (jo (lK z m) el,.sl n m)
     | _,_,_,_,_,_=>none
    | _,_,_=>none
   | none=>none
  | none=>none
 | .makeMap t r=>match r with
  | none=>some (.map [] 0,.mp)
  | some r=>match P.underlying t,ael T r with
   | some (.map _ _),.int _ _=>some (.map [] 0,.mp)
   | _,_=>none
 | _=>none
inductive AN where
 | val (v:Value) (H:AH) (n:Nat)
 | ent (f:FuncId) (args:List Value)
 | rnd (l:Nat) (args:List Value)
 | dfr (d:Deferred)
 | rcv
def jZ (t:Tr Value) (i:Nat):List Value -> Tr Value
 | []=>t
 | v :: l=>jZ (rQ t i v) (i+1) l
def jG:List Value -> Bool
 | []=>true
 | v :: l=>match v with
  | .agg _=>false
  | .tuple _=>false
  | _=>jG l
def nZ (H:AH) (a:Addr) (vs:List Value):Option AH:=match a.spot,bO H a.block with
 | none,some (.cells n tr ty w false)=>match Nat.ble (a.off+fW vs) n,jG vs with
  | true,true=>some (cP H a.block (some (.cells n (jZ tr a.off vs) ty w false)))
  | _,_=>none
 | _,_=>none
def ug (P:Program) (t:TypeId) (H:AH) (a:Addr) (v:Value):Option AH:=match eM P t with
 | some k=>match Nat.beq (fW (gF v)) k with
  | true=>nZ H a (gF v)
  | false=>none
 | none=>none
def qB (k v:Value) (clock:Nat):List (Value × Value × Nat) -> Option (List (Value × Value × Nat) × Nat)
 | []=>some ([(k,v,clock)],clock+1)
 | (k',v',b) :: l=>match kR k k' with
  | some true=>some ((k,v,b) :: l,clock)
  | some false=>match qB k v clock l with
   | some (l,c)=>some ((k',v',b) :: l,c)
   | none=>none
  | none=>none
def IG (P:Program) (t:TypeId) (H:AH) (m k v:Value):Option AH:=match P.underlying t with
 | some (.map kt _)=>match Ff P kt k,m with
  | true,.map (some r)=>match bO H r with
   | some (.map es c)=>match qB k v c es with
    | some (es,c)=>some (cP H r (some (.map es c)))
    | none=>none
   | _=>none
  | _,_=>none
 | _=>none
def pp (H:AH) (k:Nat):Value -> Option (List Value)
 | .slice none n _=>match n with
  | 0=>some []
  | _+1=>none
 | .slice (some a) n _=>match a.spot,bO H a.block with
  | none,some (.cells nn tr _ _ _)=>match Nat.ble (a.off+n * k) nn with
   | true=>some (gx tr a.off (n * k))
   | false=>none
  | _,_=>none
 | _=>none
def dP:Value -> Nat
 | .slice _ n _=>n
 | _=>0
def uh (l:List Value) (ty:TypeId) (w:Nat):AB:=match dD undef l 0 .lf with
 | .lf=>.cells (fW l) .lf ty w false
 | .nd a b c=>.cells (fW l) (.nd a b c) ty w false
def qC (H:AH) (n k len add cap:Nat) (base:Option Addr) (new:List Value):Option AN:=match base with
 | some a=>match a.spot with
  | none=>match nZ H ⟨a.block,a.off+len * k,none⟩ new with
   | some H=>some (.val (.slice (some a) (len+add) cap) H n)
   | none=>none
  | some _=>none
 | none=>match new with
  | []=>some (.val (.slice none (len+add) cap) H n)
  | _=>none
def iH (H:AH) (n k len add:Nat) (el:TypeId) (old new:List Value):AN:=.val (.slice (some ⟨n,0,none⟩) (len+add) lm) (cP H n (some (uh (old++new) el k))) (n+1)
def N6 (H:AH) (a:Addr):Option (Nat × Nat × TypeId):=match bO H a.block with
 | some (.cells nn _ ty w false)=>some (nn,w,ty)
 | _=>none
def Fi (H:AH) (n k len add cap:Nat) (a:Addr) (el:TypeId) (new:List Value):Option AN:=match a.spot,a.off,Nat.beq cap lm,N6 H a with
 | none,0,true,some (nn,w,ty)=>match Nat.beq w k,Nat.ble (len * k) nn,Nat.beq ty el with
  | true,true,true=>match Nat.ble ((len+add) * k) nn with
   | true=>qC H n k len add cap (some a) new
   | false=>match pp H k (.slice (some a) len cap) with
    | some old=>some (iH (cP H a.block none) n k len add el old new)
    | none=>none
  | _,_,_=>none
 | _,_,_,_=>none
def Fj (tr:Tr Value) (i:Nat) (new:List Value) (el:TypeId) (k:Nat):AB:=match jZ tr i new with
 | .lf=>.cells (i+fW new) .lf el k false
 | .nd a b c=>.cells (i+fW new) (.nd a b c) el k false
def sN (H:AH) (n k len add cap:Nat) (a:Addr) (el:TypeId) (new:List Value):Option AN:=match a.spot,a.off,Nat.beq cap lm,bO H a.block with
 | none,0,true,some (.cells nn tr ty w false)=>match Nat.beq w k,Nat.ble (len * k) nn,Nat.beq ty el with
  | true,true,true=>match Nat.ble ((len+add) * k) nn with
   | true=>qC H n k len add cap (some a) new
   | false=>some (.val (.slice (some ⟨n,0,none⟩) (len+add) lm) (cP (cP H a.block none) n (some (Fj tr (len * k) new el k))) (n+1))
  | _,_,_=>none
 | _,_,_,_=>none
def wi (P:Program) (H:AH) (n:Nat) (el:TypeId) (x y:Value):Option AN:=match P.info? el,kr P el with
 | some inf,some z=>match inf.size,inf.bytes,x with
  | k+1,by_+1,.slice base len cap=>match pp H (k+1) y,Nat.beq (fW z) (k+1),Nat.blt (len+dP y) 1000000,Nat.blt by_ 1000000 with
   | some new,true,true,true=>match jG new,Nat.blt cap lm with
    | true,true=>match Nat.ble (len+dP y) cap with
     | true=>qC H n (k+1) len (dP y) cap base new
     | false=>match pp H (k+1) (.slice base len cap) with
      | some old=>some (iH H n (k+1) len (dP y) el old new)
      | none=>none
    | true,false=>match base with
     | some a=>sN H n (k+1) len (dP y) cap a el new
     | none=>none
    | _,_=>none
   | _,_,_,_=>none
  | _,_,_=>none
 | _,_=>none
def MT (P:Program) (t:TypeId):Bool:=match P.underlying t with
 | some (.slice _)=>true
 | _=>false
def Fk (P:Program) (H:AH) (n:Nat) (c:Call) (T:Tr Value):Option AN:=match c with
 | ⟨_,⟨[x,y]⟩,⟨[t,u]⟩⟩=>match sM P t,MT P u with
  | some el,true=>wi P H n el (ael T x) (ael T y)
  | _,_=>none
 | _=>none
def qD (P:Program) (f:FuncId):Bool:=match P.funcs[f]? with
 | some fn=>!(fn.name == "runtime.NumGoroutine") && fn.body.isSome
 | none=>false
def pK (P:Program) (v:Value) (args:List Value):Option AN:=match v with
 | .func fn first captured=>match fn with
  | .func f=>match qD P f with
   | true=>some (.ent f (first.toList++(args++captured.toList)))
   | false=>none
  | .yield l=>match first.toList with
   | []=>some (.rnd l args)
   | _=>none
  | _=>none
 | _=>none
def Fl (P:Program) (t:TypeId) (name:String):Option FuncId:=match P.info? t,Nat.blt 0 (P.types.size+Made.depth) with
 | some i,true=>match i.methods.find? (·.name == name) with
  | some m=>match m.path.toList,m.func,P.underlying t with
   | [],some (f,true),some (.pointer _)=>some f
   | [],some (_,false),some (.pointer _)=>none
   | [],some (f,false),some _=>some f
   | _,_,_=>none
  | none=>none
 | _,_=>none
def wj (P:Program) (H:AH) (n:Nat) (el:TypeId) (x y:Value):Option AN:=match eM P el with
 | some k=>match x,y with
  | .slice (some a) dl _,.slice b sl cc=>match a.spot,pp H k (.slice b (Nat.min sl dl) cc) with
   | none,some vs=>match nZ H a vs with
    | some H=>some (.val (.int .i64 (.ofNat (Nat.min sl dl))) H n)
    | none=>none
   | _,_=>none
  | _,_=>none
 | none=>none
def wl (P:Program) (H:AH) (n:Nat) (c:Call) (T:Tr Value):Option AN:=match c with
 | ⟨_,⟨[x,y]⟩,⟨[t,_]⟩⟩=>match sM P t with
  | some el=>wj P H n el (ael T x) (ael T y)
  | none=>none
 | _=>none
def mw (P:Program) (o:Oper) (T:Tr Value) (H:AH) (n:Nat):Option AN:=match o.op with
 | .store t x y=>match ael T x with
  | .pointer (some a)=>match ug P t H a (ael T y) with
   | some H=>some (.val undef H n)
   | none=>none
  | _=>none
 | .mapUpdate t m k v=>match IG P t H (ael T m) (ael T k) (ael T v) with
  | some H=>some (.val undef H n)
  | none=>none
 | .insert t m k v=>match IG P t H (ael T m) (ael T k) (ael T v) with
  | some H=>some (.val undef H n)
  | none=>none
 | .defer c=>match c.callee with
  | .value f=>match ael T f with
   | .func fn first captured=>some (.dfr { target:=.fn fn captured,args:=⟨first.toList++mv T c.args.toList⟩ })
   | _=>none
  | _=>none
 | .call c=>match c.callee with
  | .value f=>match pK P (ael T f) (mv T c.args.toList) with
   | some x=>some x
   | none=>match fX P T o with
    | some v=>some (.val v H n)
    | none=>none
  | .builtin b=>match b with
   | .append=>Fk P H n c T
   | .copy=>wl P H n c T
   | .recover=>some .rcv
   | _=>none
  | .invoke recv name=>match ael T recv with
   | .iface t v=>match Fl P t name with
    | some f=>match qD P f with
     | true=>some (.ent f (v :: mv T c.args.toList))
     | false=>none
    | none=>none
   | _=>none
 | _=>none
def K4 (b:AB) (m:Mk) (H:AH) (n:Nat):AN:=.val (m.val n) (cP H n (some b)) (n+1)
def Ag (P:Program) (G:Nat) (o:Oper) (T:Tr Value) (H:AH) (n:Nat):Option AN:=match iG o.op with
 | none=>none
 | some l=>match rR G l with
  | false=>none
  | true=>match rD P o.op with
   | .pu=>match gw P o T with
    | some v=>some (.val v H n)
    | none=>none
   | .lo=>match ja P o T H with
    | some v=>some (.val v H n)
    | none=>none
   | .nw=>match rS P o T with
    | some (b,m)=>some (K4 b m H n)
    | none=>none
   | .ef=>mw P o T H n
inductive Ex where
 | normal
 | exit (id:Nat)
 | ret
inductive Task where
 | code (r:Option Nat) (N:Nat) (c:Code) (s:St)
 | loop (r:Option Nat) (N:Nat) (c:Code) (s:St)
 | fn (f:FuncId) (args:List Value) (H:AH) (n:Nat)
 | rnd (l:Nat) (T:Tr Value) (N:Nat) (assign body:Code) (H:AH) (n:Nat)
 | dfn (f:FuncId) (args:List Value) (H:AH) (n:Nat)
inductive Rs where
 | cd (e:Ex) (s:St)
 | fn (v:Value) (H:AH) (n:Nat)
def ew (ops:Array Oper) (o:Oper) (T:Tr Value):Option Bool:=match o.guard with
 | none=>some true
 | some (j,want)=>match (ops[j]?).bind (·.dst) with
  | some d=>match cQ T d with
   | .bool b=>some (b == want)
   | .tuple _=>some false
   | _=>none
  | none=>none
def eX (N:Nat) (dst:Option Tmp) (v:Value) (T:Tr Value):Option (Tr Value):=match dst with
 | none=>some T
 | some d=>match Nat.blt d N with
  | true=>some (rQ T d v)
  | false=>none
def Fp:List Tmp -> List Value -> Tr Value -> Tr Value
 | p :: ps,v :: vs,T=>Fp ps vs (rQ T p v)
 | _,_,T=>T
def Ah (N:Nat):List Tmp -> Bool
 | []=>true
 | p :: ps=>match Nat.blt p N with
  | true=>Ah N ps
  | false=>false
inductive OpR where
 | val (v:Value) (H:AH) (n:Nat)
 | dfr (d:Deferred)
def jH (P:Program) (G:Nat) (ih:Task -> Option Rs) (r:Option Nat) (o:Oper) (T:Tr Value) (H:AH) (n:Nat):Option OpR:=match Ag P G o T H n with
 | none=>none
 | some x=>match x with
  | .val v H n=>some (.val v H n)
  | .ent f args=>match ih (.fn f args H n) with
   | some (.fn v H n)=>some (.val v H n)
   | _=>none
  | .rnd l args=>match bO H l with
   | some (.loop _ _ T N' ps assign body _)=>match Nat.beq (fW args) ps.size,Ah N' ps.toList with
    | true,true=>match ih (.rnd l (Fp ps.toList args T) N' assign body H n) with
     | some (.fn v H n)=>some (.val v H n)
     | _=>none
    | _,_=>none
   | _=>none
  | .dfr d=>match r with
   | none=>some (.dfr d)
   | some _=>none
  | .rcv=>none
def lU (P:Program) (G:Nat) (ih:Task -> Option Rs) (r:Option Nat) (N:Nat) (ops:Array Oper):List Oper -> St -> Option St
 | [],s=>some s
 | o :: rest,s=>match ew ops o s.T with
  | none=>none
  | some false=>match eX N o.dst undef s.T with
   | some T=>lU P G ih r N ops rest ⟨T,s.D,s.H,s.n⟩
   | none=>none
  | some true=>match jH P G ih r o s.T s.H s.n with
   | none=>none
   | some (.val v H n)=>match eX N o.dst v s.T with
    | some T=>lU P G ih r N ops rest ⟨T,s.D,H,n⟩
    | none=>none
   | some (.dfr d)=>match eX N o.dst undef s.T with
    | some T=>lU P G ih r N ops rest ⟨T,d :: s.D,s.H,s.n⟩
    | none=>none
mutual
def rE:Value -> Value -> Bool
 | .bool a,.bool b=>a == b
 | .int k a,.int k' b=>match decide (k=k') with
  | true=>a == b
  | false=>false
 | .string a,.string b=>a == b
 | .pointer a,.pointer b=>decide (a=b)
 | .slice a n c,.slice b n' c'=>match decide (a=b),Nat.beq n n',Nat.beq c c' with
  | true,true,true=>true
  | _,_,_=>false
 | .map a,.map b=>decide (a=b)
 | .func fn f c,.func fn' f' c'=>match decide (fn=fn'),Cx f f' with
  | true,true=>Cx c c'
  | _,_=>false
 | .nilFunc,.nilFunc=>true
 | .iface t v,.iface t' v'=>match Nat.beq t t' with
  | true=>rE v v'
  | false=>false
 | .nilIface,.nilIface=>true
 | .agg c,.agg c'=>Cx c c'
 | .tuple c,.tuple c'=>Cx c c'
 | _,_=>false
def Cx:Array Value -> Array Value -> Bool
 | ⟨l⟩,⟨l'⟩=>pq l l'
def pq:List Value -> List Value -> Bool
 | [],[]=>true
 | v :: l,v' :: l'=>match rE v v' with
  | true=>pq l l'
  | false=>false
 | _,_=>false
end
def wm (e:Edge):Bool:=match e.ground with
 | .textOnly _=>false
 | .gcOnly _=>false
 | _=>true
def jI (i:Nat):List Nat -> Bool
 | []=>false
 | j :: l=>match Nat.beq i j with
  | true=>true
  | false=>jI i l
def IH {α:Type}:List α -> Nat -> Option α
 | [],_=>none
 | b :: l,i=>match i with
  | 0=>some b
  | i+1=>IH l i
def yE (bs:List (List Nat)):List Edge -> Option (List Nat)
 | []=>some []
 | e :: es=>match yE bs es with
  | none=>none
  | some l=>match wm e with
   | false=>some l
   | true=>match IH bs e.on with
    | some b=>some (e.on :: (b++l))
    | none=>none
def Fq:List Oper -> List (List Nat) -> Option (List (List Nat))
 | [],bs=>some bs
 | o :: l,bs=>match yE bs o.after.toList with
  | some b=>Fq l (bs++[b])
  | none=>none
def qE:List Operand -> List Tmp
 | []=>[]
 | x :: l=>match x with
  | .tmp t=>t :: qE l
  | _=>qE l
def looks (ops:Array Oper) (o:Oper):Option (List Tmp):=match iG o.op with
 | none=>none
 | some l=>match o.guard with
  | none=>some (qE l)
  | some (j,_)=>match (ops[j]?).bind (·.dst) with
   | some d=>some (d :: qE l)
   | none=>none
def isE (P:Program) (o:Oper):Bool:=match rD P o.op with
 | .ef=>true
 | _=>false
def isN (P:Program) (o:Oper):Bool:=match rD P o.op with
 | .nw=>true
 | _=>false
def qF (P:Program) (ops:Array Oper) (i:Nat) (o o':Oper) (b':List Nat):Bool:=match jI i b' with
 | true=>match o.dst,o'.dst with
  | some d,some d'=>!(Nat.beq d d')
  | _,_=>true
 | false=>match isE P o',isE P o || isN P o with
  | true,true=>false
  | _,_=>match looks ops o,looks ops o' with
   | some l,some l'=>match o.dst,o'.dst with
    | some d,some d'=>!(Nat.beq d d') && !(jI d l') && !(jI d' l)
    | some d,none=>!(jI d l')
    | none,some d'=>!(jI d' l)
    | none,none=>true
   | _,_=>false
def qG (P:Program) (ops:Array Oper) (o':Oper) (b':List Nat):Nat -> List Oper -> Bool
 | _,[]=>true
 | i,o :: l=>match qF P ops i o o' b' with
  | true=>qG P ops o' b' (i+1) l
  | false=>false
def mM (G:Nat) (o:Oper):Bool:=match iG o.op with
 | some l=>rR G l
 | none=>false
def sO (P:Program) (G:Nat) (ops:Array Oper) (all:List Oper):Nat -> List Oper -> List (List Nat) -> Bool
 | _,[],[]=>true
 | i,o :: l,b :: bs=>match mM G o,qG P ops o b 0 (all.take i),(looks ops o).isSome with
  | true,true,true=>sO P G ops all (i+1) l bs
  | _,_,_=>false
 | _,_,_=>false
def yF (P:Program) (G:Nat) (ops:Array Oper):Option (List (List Nat)):=match Fq ops.toList [] with
 | some bs=>match sO P G ops ops.toList 0 ops.toList bs with
  | true=>some bs
  | false=>none
 | none=>none
structure DLd where
 i:Nat
 o:Oper
 b:List Nat
 T:Tr Value
 v:Value
structure DSt where
 T:Tr Value
 H:AH
 n:Nat
 pend:List (Nat × AB)
 stg:List (Nat × List Nat × AH)
 lds:List DLd
def gG (H:AH):List (Nat × AB) -> AH
 | []=>H
 | (h,b) :: l=>gG (cP H h (some b)) l
def OH (P:Program) (G:Nat) (ih:Task -> Option Rs) (r:Option Nat) (N:Nat) (ops:Array Oper) (i:Nat) (o:Oper) (b:List Nat) (s:DSt):Option DSt:=match ew ops o s.T with
 | none=>none
 | some false=>match eX N o.dst undef s.T with
  | some T=>some { s with T:=T }
  | none=>none
 | some true=>match rD P o.op with
  | .pu=>match gw P o s.T with
   | some v=>match eX N o.dst v s.T with
    | some T=>some { s with T:=T }
    | none=>none
   | none=>none
  | .lo=>match ja P o s.T s.H with
   | some v=>match eX N o.dst v s.T with
    | some T=>some { s with T:=T,lds:=⟨i,o,b,s.T,v⟩ :: s.lds }
    | none=>none
   | none=>none
  | .nw=>match rS P o s.T with
   | some (bl,m)=>match eX N o.dst (m.val s.n) s.T with
    | some T=>some { s with T:=T,n:=s.n+1,pend:=s.pend++[(s.n,bl)] }
    | none=>none
   | none=>none
  | .ef=>match gG s.H s.pend with
   | H=>match jH P G ih r o s.T H s.n with
    | some (.val v H' n')=>match eX N o.dst v s.T with
     | some T=>some { s with T:=T,H:=H',n:=n',pend:=[],stg:=s.stg++[(i,b,H')] }
     | none=>none
    | _=>none
def wo (P:Program) (G:Nat) (ih:Task -> Option Rs) (r:Option Nat) (N:Nat) (ops:Array Oper):Nat -> List Oper -> List (List Nat) -> DSt -> Option DSt
 | _,[],_,s=>some s
 | i,o :: l,b :: bs,s=>match OH P G ih r N ops i o b s with
  | some s=>wo P G ih r N ops (i+1) l bs s
  | none=>none
 | _,_,_,_=>none
def N7 (P:Program) (d:DLd) (H:AH):Bool:=match ja P d.o d.T H with
 | some v=>rE d.v v
 | none=>false
def rT (P:Program) (d:DLd):List Nat -> AH -> List (Nat × List Nat × AH) -> Bool
 | be,H,[]=>match jI d.i be with
  | true=>true
  | false=>N7 P d H
 | be,H,(e,be',H') :: l=>match jI d.i be || jI e d.b with
  | true=>rT P d be' H' l
  | false=>match N7 P d H with
   | true=>rT P d be' H' l
   | false=>false
def Ai (P:Program) (H:AH) (stg:List (Nat × List Nat × AH)):List DLd -> Bool
 | []=>true
 | d :: l=>match rT P d [] H stg with
  | true=>Ai P H stg l
  | false=>false
def K5 (P:Program) (G:Nat) (ih:Task -> Option Rs) (r:Option Nat) (N:Nat) (ops:Array Oper) (s:St):Option St:=match yF P G ops with
 | none=>none
 | some bs=>match wo P G ih r N ops 0 ops.toList bs ⟨s.T,s.H,s.n,[],[],[]⟩ with
  | none=>none
  | some d=>match Ai P s.H d.stg d.lds with
   | true=>some ⟨d.T,s.D,gG d.H d.pend,d.n⟩
   | false=>none
def Aj:Code -> Option Ex
 | .ret=>some .ret
 | .exit id=>some (.exit id)
 | _=>none
def iQ (P:Program) (G:Nat) (ih:Task -> Option Rs) (r:Option Nat) (N:Nat):Code -> St -> Option (Ex × St)
 | .skip,s=>some (.normal,s)
 | .label _,s=>some (.normal,s)
 | .region _ ops draw,s=>match draw with
  | false=>match lU P G ih r N ops ops.toList s with
   | some s=>some (.normal,s)
   | none=>none
  | true=>match K5 P G ih r N ops s with
   | some s=>some (.normal,s)
   | none=>none
 | .seq a b,s=>match iQ P G ih r N a s with
  | some (.normal,s)=>iQ P G ih r N b s
  | x=>x
 | .cond c x y,s=>match ael s.T c with
  | .bool true=>iQ P G ih r N x s
  | .bool false=>iQ P G ih r N y s
  | _=>none
 | .block id c,s=>match iQ P G ih r N c s with
  | some (.exit id',s)=>match Nat.beq id' id with
   | true=>some (.normal,s)
   | false=>some (.exit id',s)
  | x=>x
 | .loop c,s=>match iQ P G ih r N c s with
  | some (.normal,s)=>match ih (.loop r N c s) with
   | some (.cd e s)=>some (e,s)
   | _=>none
  | x=>x
 | .rangeFunc g ps assign body,s=>match ael s.T g,N5 G g with
  | .func (.func f) first captured,true=>match qD P f with
   | true=>match (match r with
    | none=>some (s.n,(⟨{ target:=.collected s.n,args:=#[] },[]⟩:Deferred × List Deferred).1 :: s.D,cP s.H s.n (some (.dfr false)),s.n+1)
    | some l0=>match bO s.H l0 with
     | some (.loop _ _ _ _ _ _ _ d)=>some (d,s.D,s.H,s.n)
     | _=>none) with
    | some (d,D,H,n)=>match ih (.fn f (first.toList++(.func (.yield n) #[] #[] :: captured.toList)) (cP H n (some (.loop .ready none s.T N ps assign body d))) (n+1)) with
     | some (.fn _ H' n')=>match bO H' n with
      | some (.loop st pend T' N' ps' as' bo' d')=>match st with
       | .busy=>none
       | _=>match pend with
        | none=>some (.normal,⟨s.T,D,cP H' n (some (.loop .exhausted pend T' N' ps' as' bo' d')),n'⟩)
        | some c=>match Aj c with
         | some e=>some (e,⟨s.T,D,cP H' n (some (.loop .exhausted pend T' N' ps' as' bo' d')),n'⟩)
         | none=>none
      | _=>none
     | _=>none
    | none=>none
   | false=>none
  | _,_=>none
 | .exit id,s=>some (.exit id,s)
 | .scope c,s=>iQ P G ih r N c s
 | .goto _,_=>none
 | .ret,s=>some (.ret,s)
 | .refuse _,_=>none
def oa (P:Program) (T:Tr Value) (H:AH):List ResultVar -> Option (List Value)
 | []=>some []
 | .tmp t :: l=>match oa P T H l with
  | some vs=>some (cQ T t :: vs)
  | none=>none
 | .cell a t :: l=>match cQ T a with
  | .pointer (some a)=>match sL P t H a,oa P T H l with
   | some v,some vs=>some (v :: vs)
   | _,_=>none
  | _=>none
def wp:List Value -> Value
 | [v]=>v
 | l=>.tuple ⟨l⟩
def j0 (P:Program) (ih:Task -> Option Rs):List Deferred -> AH -> Nat -> Option (AH × Nat)
 | [],H,n=>some (H,n)
 | d :: ds,H,n=>match d.target with
  | .collected h=>match bO H h with
   | some (.dfr false)=>j0 P ih ds (cP H h (some (.dfr true))) n
   | _=>none
  | .fn (.func f) captured=>match qD P f with
   | true=>match ih (.dfn f (d.args.toList++captured.toList) H n) with
    | some (.fn _ H n)=>j0 P ih ds H n
    | _=>none
   | false=>none
  | _=>none
def my (P:Program) (G:Nat) (N:Nat) (ops:Array Oper):List Oper -> St -> Option St
 | [],s=>some s
 | o :: rest,s=>match ew ops o s.T with
  | none=>none
  | some false=>match eX N o.dst undef s.T with
   | some T=>my P G N ops rest ⟨T,s.D,s.H,s.n⟩
   | none=>none
  | some true=>match Ag P G o s.T s.H s.n with
   | some (.val v H n)=>match eX N o.dst v s.T with
    | some T=>my P G N ops rest ⟨T,s.D,H,n⟩
    | none=>none
   | some .rcv=>match eX N o.dst .nilIface s.T with
    | some T=>my P G N ops rest ⟨T,s.D,s.H,s.n⟩
    | none=>none
   | _=>none
def Fs (P:Program) (G:Nat) (ih:Task -> Option Rs) (N:Nat):Code -> St -> Option (Ex × St)
 | .seq a b,s=>match Fs P G ih N a s with
  | some (.normal,s)=>Fs P G ih N b s
  | x=>x
 | .cond c x y,s=>match ael s.T c with
  | .bool true=>Fs P G ih N x s
  | .bool false=>Fs P G ih N y s
  | _=>none
 | .region id ops false,s=>match my P G N ops ops.toList s with
  | some s=>some (.normal,s)
  | none=>match iQ P G ih none N (.region id ops false) s with
   | some x=>some x
   | none=>none
 | c,s=>iQ P G ih none N c s
def lV (args:List Value):Tr Value:=dD undef args 0 .lf
def qH (P:Program) (f:FuncId):Option (Func × Code):=match P.funcs[f]? with
 | some fn=>match fn.body with
  | some c=>some (fn,c)
  | none=>none
 | none=>none
def gy (P:Program) (G:Nat) (ih:Task -> Option Rs):Task -> Option Rs
 | .code r N c s=>match iQ P G ih r N c s with
  | some (e,s)=>some (.cd e s)
  | none=>none
 | .loop r N c s=>match iQ P G ih r N (.loop c) s with
  | some (e,s)=>some (.cd e s)
  | none=>none
 | .fn f args H n=>match qH P f with
  | some (fn,c)=>match Nat.ble (fW args) fn.ntmps with
   | true=>match iQ P G ih none fn.ntmps c ⟨lV args,[],H,n⟩ with
    | some (.exit _,_)=>none
    | some (_,s)=>match j0 P ih s.D s.H s.n with
     | some (H,n)=>match oa P s.T H fn.results.toList with
      | some vs=>some (.fn (wp vs) H n)
      | none=>none
     | none=>none
    | none=>none
   | false=>none
  | none=>none
 | .rnd l T N assign body H n=>match iQ P G ih (some l) N assign ⟨T,[],H,n⟩ with
  | some (.normal,s)=>match bO s.H l,s.D with
   | some (.loop .ready pend T' N' ps as' bo d),[]=>match iQ P G ih (some l) N body ⟨s.T,[],cP s.H l (some (.loop .busy pend T' N' ps as' bo d)),s.n⟩ with
    | some (e,s)=>match bO s.H l with
     | some (.loop _ _ T' N' ps as' bo d)=>match e with
      | .normal=>some (.fn (.bool true) (cP s.H l (some (.loop .ready none T' N' ps as' bo d))) s.n)
      | .ret=>some (.fn (.bool false) (cP s.H l (some (.loop .done (some .ret) T' N' ps as' bo d))) s.n)
      | .exit id=>some (.fn (.bool false) (cP s.H l (some (.loop .done (some (.exit id)) T' N' ps as' bo d))) s.n)
     | _=>none
    | none=>none
   | _,_=>none
  | _=>none
 | .dfn f args H n=>match qH P f with
  | some (fn,c)=>match Nat.ble (fW args) fn.ntmps with
   | true=>match Fs P G ih fn.ntmps c ⟨lV args,[],H,n⟩ with
    | some (.exit _,_)=>none
    | some (_,s)=>match s.D with
     | []=>match oa P s.T s.H fn.results.toList with
      | some vs=>some (.fn (wp vs) s.H s.n)
      | none=>none
     | _=>none
    | none=>none
   | false=>none
  | none=>none
def Ft (P:Program) (G:Nat):Nat -> Task -> Option Rs
 | 0,_=>none
 | k+1,t=>gy P G (Ft P G k) t
end
end Go.Proofs.YtobflkidpfkcaaaGreatDoor
