import Derived.Test.YtjgdhjpafjpjgaaGreatDoorL1
import Derived.Laws.RangeString
set_option linter.unusedVariables false
set_option linter.unusedSimpArgs false
namespace Go.VM
section
variable{N:Nat}
def Gy (c:UInt8):Bool:=IU c||(F9 c||([45,46,95,126]:List UInt8).contains c)
theorem AKU (c:UInt8):El N (AJ c)=some (Gy c):=by
  have:=DV (f:=fun n=>El N (n:Int)) (g:=fun n=>some (Gy (UInt8.ofNat n))) (by kernel_rfl) c
  simp only[UInt8.ofNat_toNat]at this
  exact this
theorem AKe (c:UInt8):En N (AJ c)=some (Gy c):=by
  have:=DV (f:=fun n=>En N (n:Int)) (g:=fun n=>some (Gy (UInt8.ofNat n))) (by kernel_rfl) c
  simp only[UInt8.ofNat_toNat]at this
  exact this
theorem Wt (c:UInt8) (h:Kw c=true):Gu N (AJ c)=some ((Ib c.toNat:Nat):Int):=by
  have:=DV (f:=fun n=>if QY n=true then Gu N (n:Int)else none) (g:=fun n=>if QY n=true then some ((Ib n:Nat):Int)else none) (by kernel_rfl) c
  simp only[show QY c.toNat=true from h,if_true]at this
  exact this
theorem V3 (c:UInt8) (h:Kw c=true):JH N (AJ c)=some ((Ib c.toNat:Nat):Int):=by
  have:=DV (f:=fun n=>if QY n=true then JH N (n:Int)else none) (g:=fun n=>if QY n=true then some ((Ib n:Nat):Int)else none) (by kernel_rfl) c
  simp only[show QY c.toNat=true from h,if_true]at this
  exact this
def hx (a b:UInt8):UInt8:=UInt8.ofNat (16 * Ib a.toNat+Ib b.toNat)
theorem Abe{x y:Nat} (hx:x<16) (hy:y<16):Li .u8 (AIZ .u8 (x:Int) 4) (y:Int)=AJ (UInt8.ofNat (16 * x+y)):=by
  have:=DV (f:=fun n=>Li .u8 (AIZ .u8 ((n / 16:Nat):Int) 4) ((n % 16:Nat):Int)) (g:=fun n=>AJ (UInt8.ofNat n)) (by kernel_rfl) (UInt8.ofNat (16 * x+y))
  have e:(UInt8.ofNat (16 * x+y)).toNat=16 * x+y:=by rw[UInt8.toNat_ofNat'];omega
  simp only[e]at this
  rw[show(16 * x+y) / 16=x by omega,show(16 * x+y) % 16=y by omega]at this
  exact this
theorem AbT{x y:Nat} (hx:x<16) (hy:y<16):wr .u8 ((wr .u8 (16 * (x:Int)))+(y:Int))=AJ (UInt8.ofNat (16 * x+y)):=by
  have e:(UInt8.ofNat (16 * x+y)).toNat=16 * x+y:=by rw[UInt8.toNat_ofNat'];omega
  rw[WG (n:=16 * (x:Int)) (by omega),WG (by omega),Ig,e];omega
def JW:List UInt8→Option UInt8
  |a::b::_=>if(Kw a&&Kw b)=true then some (hx a b)else none
  |_=>none
def TC:Option UInt8→Int×Bool
  |some x=>(AJ x,true)
  |none=>(0,false)
section
variable{l t:List UInt8}{i:Nat}{c:UInt8}
theorem AJw (h:l.drop i=c::t) (hb:l.length≤2^40):Fu N l (i:Int)=some (TC (JW t)):=by
  have hi:i≤l.length:=by
    have:=congrArg List.length h
    simp only[List.length_drop,List.length_cons]at this;omega
  have hl:=Ii h hi
  simp only[List.length_cons]at hl
  unfold Fu
  dsimp only[AB]
  rw[AR (by omega)]
  match t,h,hl with
  |[],h,hl=>simp only[List.length_nil]at hl;rw[if_pos (by rw[decide_eq_true_eq];omega),if_pos rfl];rfl
  |[a],h,hl=>simp only[List.length_cons,List.length_nil]at hl;rw[if_pos (by rw[decide_eq_true_eq];omega),if_pos rfl];rfl
  | a::b::r,h,hl=>
    simp only[List.length_cons]at hl
    rw[if_neg (by simp;omega),show wr .i64 ((i:Int)+1)=((i+1:Nat):Int) by rw[AR (by omega)];omega,show wr .i64 ((i:Int)+2)=((i+2:Nat):Int) by rw[AR (by omega)];omega,Jb (j:=1) h rfl,Jb (j:=2) h rfl,Option.bind_some,Option.bind_some,AJk,Option.bind_some,Option.bind_some,AJk,Option.bind_some]
    unfold JW
    cases ha:Kw a
    · simp[TC,ha]
    · cases hb2:Kw b
      · simp[TC,ha,hb2]
      · simp only[Bool.not_true,Bool.and_self,if_true,Bool.false_eq_true,if_false]
        rw[Wt a ha,Option.bind_some,Option.bind_some,Wt b hb2,Option.bind_some,Abe (TP a ha) (TP b hb2)];simp[TC,ha,hb2,hx]
theorem AKj (h:l.drop i=37::t) (hb:l.length≤2^40):IM N l (i:Int)=some (TC (JW t)):=by
  have hi:i≤l.length:=by
    have:=congrArg List.length h
    simp only[List.length_drop,List.length_cons]at this;omega
  have hl:=Ii h hi
  simp only[List.length_cons]at hl
  unfold IM
  dsimp only[AB]
  rw[show wr .i64 ((i:Int)+1)=((i+1:Nat):Int) by rw[AR (by omega)];omega,show wr .i64 ((i:Int)+2)=((i+2:Nat):Int) by rw[AR (by omega)];omega]
  match t,h,hl with
  |[],h,hl=>simp only[List.length_nil]at hl;rw[if_pos (by rw[decide_eq_true_eq];omega),if_pos rfl];rfl
  |[a],h,hl=>simp only[List.length_cons,List.length_nil]at hl;rw[if_pos (by rw[decide_eq_true_eq];omega),if_pos rfl];rfl
  | a::b::r,h,hl=>
    simp only[List.length_cons]at hl
    rw[if_neg (by simp;omega),show idx l (i:Int)=some 37 from Jb (j:=0) h rfl,Option.bind_some,if_neg (by decide),Jb (j:=1) h rfl,Jb (j:=2) h rfl,Option.bind_some,Option.bind_some,AKM,Option.bind_some,Option.bind_some,AKM,Option.bind_some]
    unfold JW
    cases ha:Kw a
    · simp[TC,ha]
    · cases hb2:Kw b
      · simp[TC,ha,hb2]
      · simp only[Bool.not_true,Bool.and_self,if_true,Bool.false_eq_true,if_false]
        rw[V3 a ha,Option.bind_some,Option.bind_some,V3 b hb2,Option.bind_some,AbT (TP a ha) (TP b hb2)];simp[TC,ha,hb2,hx]
def OH:Nat→List UInt8→List UInt8→List UInt8×Int
  |0,_,_=>([],2)
  |_+1,[],out=>(out,0)
  |k+1,c::t,out=>if c=37 then(match JW t with|some x=>OH k (t.drop 2) (out++[x])|none=>([],2))else OH k t (out++[c])
theorem Km{n:Nat} (h:n≤1000000000):Cg n 1:=by unfold Cg;omega
theorem Ol{x:UInt8} (h:JW t=some x):2≤t.length:=by
  match t,h with
  |[],h=>cases h
  |[_],h=>cases h
  |_::_::_,_=>simp
theorem Uo (c:UInt8):(AJ c==37)=decide (c=37):=by
  have:=DV (f:=fun n=>((n:Int)==37)) (g:=fun n=>decide (UInt8.ofNat n=37)) (by kernel_rfl) c
  simp only[UInt8.ofNat_toNat]at this
  exact this
theorem Rp (hb:l.length≤100000): ∀(k:Nat) (t:List UInt8) (i:Nat) (out:List UInt8),l.drop i=t→i≤l.length→t.length<k→out.length≤i→
    DL N l (fun j=>some (List.map Fx j,0)) k (List.map AJ out) (i:Int)=some (OH k t out)
  |0,t,i,out,_,_,h,_=>by omega
  | k+1,[],i,out,h,hi,hk,ho=>by
    have hl:=Ii h hi
    rw[DL,if_neg (by simp at hl⊢;omega),I1];rfl
  | k+1,c::t,i,out,h,hi,hk,ho=>by
    have hl:=Ii h hi
    simp only[List.length_cons]at hl hk
    rw[DL,if_pos (by simp;omega),show idx l (i:Int)=some c from Jb (j:=0) h rfl,Option.bind_some,AB,Uo]
    have hd:l.drop (i+1)=t:=by rw[←List.drop_drop,h];rfl
    by_cases hc:c=37
    · rw[decide_eq_true hc,if_pos rfl,AJw h (by omega),Option.bind_some,OH,if_pos hc]
      cases he:JW t with
      |none=>rfl
      | some x=>
        have:=Ol he
        simp only[TC,if_true]
        rw[AV (Km (by simp;omega)),show wr .i64 (wr .i64 ((i:Int)+2)+1)=((i+3:Nat):Int) by rw[AR (n:=(i:Int)+2) (by omega),AR (by omega)];omega,show List.map AJ out++[AJ x]=List.map AJ (out++[x]) by simp]
        exact Rp hb k _ (i+3) (out++[x]) (by rw[show i+3=i+1+2 by omega,←List.drop_drop,hd]) (by omega) (by rw[List.length_drop];omega) (by simp;omega)
    · rw[decide_eq_false hc,if_neg (by decide),OH,if_neg hc]
      dsimp only
      rw[AV (Km (by simp;omega)),show wr .i64 ((i:Int)+1)=((i+1:Nat):Int) by rw[AR (by omega)];omega,show List.map AJ out++[AJ c]=List.map AJ (out++[c]) by simp]
      exact Rp hb k t (i+1) (out++[c]) hd (by omega) (by omega) (by simp;omega)
theorem Rv (hb:l.length≤100000): ∀(k:Nat) (t:List UInt8) (i:Nat) (out:List UInt8),l.drop i=t→i≤l.length→t.length<k→out.length≤i→
    Dv N l (fun j=>some (List.map Fx j,0)) k (List.map AJ out) (i:Int)=some (OH k t out)
  |0,t,i,out,_,_,h,_=>by omega
  | k+1,[],i,out,h,hi,hk,ho=>by
    have hl:=Ii h hi
    rw[Dv,if_neg (by simp at hl⊢;omega),I1];rfl
  | k+1,c::t,i,out,h,hi,hk,ho=>by
    have hl:=Ii h hi
    simp only[List.length_cons]at hl hk
    rw[Dv,if_pos (by simp;omega),show idx l (i:Int)=some c from Jb (j:=0) h rfl,Option.bind_some,AB,Uo]
    have hd:l.drop (i+1)=t:=by rw[←List.drop_drop,h];rfl
    by_cases hc:c=37
    · subst hc
      rw[decide_eq_true rfl,if_pos rfl,AKj h (by omega),Option.bind_some,OH,if_pos rfl]
      cases he:JW t with
      |none=>rfl
      | some x=>
        have:=Ol he
        simp only[TC,if_true]
        rw[AV (Km (by simp;omega)),show wr .i64 (wr .i64 ((i:Int)+2)+1)=((i+3:Nat):Int) by rw[AR (n:=(i:Int)+2) (by omega),AR (by omega)];omega,show List.map AJ out++[AJ x]=List.map AJ (out++[x]) by simp]
        exact Rv hb k _ (i+3) (out++[x]) (by rw[show i+3=i+1+2 by omega,←List.drop_drop,hd]) (by omega) (by rw[List.length_drop];omega) (by simp;omega)
    · rw[decide_eq_false hc,if_neg (by decide),OH,if_neg hc]
      dsimp only
      rw[AV (Km (by simp;omega)),show wr .i64 ((i:Int)+1)=((i+1:Nat):Int) by rw[AR (by omega)];omega,show List.map AJ out++[AJ c]=List.map AJ (out++[c]) by simp]
      exact Rv hb k t (i+1) (out++[c]) hd (by omega) (by omega) (by simp;omega)
end
def Nl (N:Nat) (s:List UInt8):List UInt8×Int:=if s.length>16384 then([],5)else OH N s []
theorem Tu (s:List UInt8) (hN:20000≤N):E9 N s=some (Nl N s):=by
  unfold E9 Nl
  by_cases h:s.length>16384
  · rw[if_pos (by simp;omega),if_pos h]
  · rw[if_neg (by simp;omega),if_neg h,AB]
    exact Rp (l:=s) (by omega) N s 0 [] rfl (by omega) (by omega) (by simp)
theorem Ph (s:List UInt8) (hN:20000≤N):Gd N s=some (Nl N s):=by
  unfold Gd Nl
  by_cases h:s.length>16384
  · rw[if_pos (by simp;omega),if_pos h]
  · rw[if_neg (by simp;omega),if_neg h,AB]
    exact Rv (l:=s) (by omega) N s 0 [] rfl (by omega) (by omega) (by simp)
end
end Go.VM
namespace Go.VM
section
variable{N:Nat}
def VW (n:Nat):UInt8:=([48,49,50,51,52,53,54,55,56,57,65,66,67,68,69,70]:List UInt8).getD n 0
def MO (c:UInt8):List UInt8:=[37,VW (c.toNat / 16),VW (c.toNat % 16)]
theorem SF (c:UInt8):IJ N (AJ c)=some (MO c):=by
  have:=DV (f:=fun n=>IJ N (n:Int)) (g:=fun n=>some ([37,VW (n / 16),VW (n % 16)]:List UInt8)) (by kernel_rfl) c
  exact this
def OJ (also:List UInt8):Nat→List UInt8→List UInt8→List UInt8×Int
  |0,_,_=>([],2)
  |_+1,[],out=>(out,0)
  | k+1,c::t,out=>
    if c=37 then(match JW t with|some x=>OJ also k (t.drop 2) (out++(if Gy x=true then [x]else MO x))|none=>([],2))
    else if(Gy c||also.contains c)=true then OJ also k t (out++[c])else([],1)
section
variable{l also:List UInt8}
theorem Ot (hb:l.length≤100000) (ha:also.length≤1000): ∀(k:Nat) (t:List UInt8) (i:Nat) (out:List UInt8),l.drop i=t→i≤l.length→t.length<k→out.length≤3 * i→
    CG N l also (fun j=>some (List.map Fx j,0)) k (List.map AJ out) (i:Int)=some (OJ also k t out)
  |0,t,i,out,_,_,h,_=>by omega
  | k+1,[],i,out,h,hi,hk,ho=>by
    have hl:=Ii h hi
    rw[CG,if_neg (by simp at hl⊢;omega),I1];rfl
  | k+1,c::t,i,out,h,hi,hk,ho=>by
    have hl:=Ii h hi
    simp only[List.length_cons]at hl hk
    rw[CG,if_pos (by simp;omega),AB,show idx l (i:Int)=some c from Jb (j:=0) h rfl,Option.bind_some,bne,Uo,OJ]
    have hd:l.drop (i+1)=t:=by rw[←List.drop_drop,h];rfl
    by_cases hc:c=37
    · subst hc
      rw[decide_eq_true rfl,if_neg (by decide),if_pos rfl,AKj h (by omega),Option.bind_some]
      cases he:JW t with
      |none=>rfl
      | some x=>
        have:=Ol he
        simp only[TC,if_true]
        rw[AB,AKe,Option.bind_some]
        have e3:wr .i64 (wr .i64 ((i:Int)+2)+1)=((i+3:Nat):Int):=by rw[AR (n:=(i:Int)+2) (by omega),AR (by omega)];omega
        cases hu:Gy x
        · rw[if_neg (by decide),SF,Option.bind_some,AV (Km (by simp[MO];omega))]
          dsimp only
          rw[e3,show List.map AJ out++List.map AJ (MO x)=List.map AJ (out++MO x) by simp]
          exact Ot hb ha k _ (i+3) (out++MO x) (by rw[show i+3=i+1+2 by omega,←List.drop_drop,hd]) (by omega) (by rw[List.length_drop];omega) (by simp[MO];omega)
        · rw[if_pos rfl,AV (Km (by simp;omega))]
          dsimp only
          rw[e3,show List.map AJ out++[AJ x]=List.map AJ (out++[x]) by simp]
          exact Ot hb ha k _ (i+3) (out++[x]) (by rw[show i+3=i+1+2 by omega,←List.drop_drop,hd]) (by omega) (by rw[List.length_drop];omega) (by simp;omega)
    · rw[decide_eq_false hc,if_pos (by decide),if_neg hc,AB,AKe,Option.bind_some]
      have step:grd (Cg ((List.map AJ out).length+1) 1) ((fun j6:List Int×Int=>CG N l also (fun j=>some (List.map Fx j,0)) k j6.1 (wr .i64 (j6.2+1))) (List.map AJ out++[AJ c],(i:Int)))=some (OJ also k t (out++[c])):=by
        rw[AV (Km (by simp;omega))]
        dsimp only
        rw[show wr .i64 ((i:Int)+1)=((i+1:Nat):Int) by rw[AR (by omega)];omega,show List.map AJ out++[AJ c]=List.map AJ (out++[c]) by simp]
        exact Ot hb ha k t (i+1) (out++[c]) hd (by omega) (by omega) (by simp;omega)
      cases hu:Gy c
      · rw[if_neg (by decide),Uw c also ha,Option.bind_some,Bool.false_or]
        cases hk2:also.contains c
        · rfl
        · simpa using step
      · rw[if_pos rfl]
        simpa using step
end
def CE (N:Nat) (s also:List UInt8):List UInt8×Int:=if s.length>16384 then([],5)else OJ also N s []
theorem Gx (s also:List UInt8) (hN:20000≤N) (ha:also.length≤1000):DX N s also=some (CE N s also):=by
  unfold DX CE
  by_cases h:s.length>16384
  · rw[if_pos (by simp;omega),if_pos h]
  · rw[if_neg (by simp;omega),if_neg h,AB]
    exact Ot (l:=s) (by omega) ha N s 0 [] rfl (by omega) (by omega) (by simp)
end
end Go.VM
namespace Go.VM
section
variable{N:Nat}
theorem Hw (c:UInt8): ∀l:List UInt8,decide (Go.Lib.indexByte l c≥0)=l.contains c
  |[]=>rfl
  | b::l=>by
    have ih:=Hw c l
    have hge:=Go.Lib.indexByte_ge l c
    unfold Go.Lib.indexByte
    rw[List.contains_cons]
    by_cases h:b=c
    · subst h;simp
    · rw[if_neg (by simpa using h),show(c==b)=false by simpa using fun e=>h e.symm,Bool.false_or,←ih]
      by_cases h1:Go.Lib.indexByte l c= -1
      · rw[h1];rfl
      · rw[if_neg (by simpa using h1)]
        congr 1
        simp only[eq_iff_iff]
        constructor<;>intro<;>omega
theorem AIO (out:List UInt8) (c:UInt8) (ho:out.length≤900000000):FH N (List.map AJ out) (AJ c)=some (List.map AJ (out++MO c)):=by
  have h1:=DV (f:=fun n=>idx ([48,49,50,51,52,53,54,55,56,57,65,66,67,68,69,70]:List UInt8) (Uc .u8 (n:Int) 4)) (g:=fun n=>some (VW (n / 16))) (by kernel_rfl) c
  have h2:=DV (f:=fun n=>idx ([48,49,50,51,52,53,54,55,56,57,65,66,67,68,69,70]:List UInt8) (Jq .u8 (n:Int) 15)) (g:=fun n=>some (VW (n % 16))) (by kernel_rfl) c
  unfold FH
  rw[show AJ c=(c.toNat:Int)from rfl,h1,Option.bind_some,h2,Option.bind_some,AV (Km (by simp;omega))]
  simp[MO,AJ]
section
variable{l also:List UInt8}
theorem Om (hb:l.length≤100000): ∀(k:Nat) (t:List UInt8) (i:Nat) (out:List UInt8),l.drop i=t→i≤l.length→t.length<k→out.length≤i→
    BZ N l also (fun j=>some (List.map Fx j,0)) k (i:Int) (List.map AJ out)=some (OJ also k t out)
  |0,t,i,out,_,_,h,_=>by omega
  | k+1,[],i,out,h,hi,hk,ho=>by
    have hl:=Ii h hi
    rw[BZ,if_neg (by simp at hl⊢;omega),I1];rfl
  | k+1,c::t,i,out,h,hi,hk,ho=>by
    have hl:=Ii h hi
    simp only[List.length_cons]at hl hk
    rw[BZ,if_pos (by simp;omega)]
    dsimp only[AB]
    rw[show idx l (i:Int)=some c from Jb (j:=0) h rfl,Option.bind_some,Uo,OJ]
    have hd:l.drop (i+1)=t:=by rw[←List.drop_drop,h];rfl
    by_cases hc:c=37
    · rw [decide_eq_true hc,if_pos rfl,if_pos hc,AJw h (by omega),Option.bind_some]
      cases he:JW t with
      |none=>rfl
      | some x=>
        have:=Ol he
        simp only[TC,if_true]
        rw[AKU,Option.bind_some]
        have e3:wr .i64 (wr .i64 ((i:Int)+2)+1)=((i+3:Nat):Int):=by rw[AR (n:=(i:Int)+2) (by omega),AR (by omega)];omega
        cases hu:Gy x
        · rw[if_neg (by decide),AIO out x (by omega),Option.bind_some,e3]
          exact Om hb k _ (i+3) (out++MO x) (by rw[show i+3=i+1+2 by omega,←List.drop_drop,hd]) (by omega) (by rw[List.length_drop];omega) (by simp[MO];omega)
        · rw[if_pos rfl,AV (Km (by simp;omega)),e3,show List.map AJ out++[AJ x]=List.map AJ (out++[x]) by simp]
          exact Om hb k _ (i+3) (out++[x]) (by rw[show i+3=i+1+2 by omega,←List.drop_drop,hd]) (by omega) (by rw[List.length_drop];omega) (by simp;omega)
    · rw[decide_eq_false hc,if_neg (by decide),if_neg hc,AKU,Option.bind_some,JE,Option.bind_some,Hw]
      have step:grd (Cg ((List.map AJ out).length+1) 1) (BZ N l also (fun j=>some (List.map Fx j,0)) k (wr .i64 ((i:Int)+1)) (List.map AJ out++[AJ c]))=some (OJ also k t (out++[c])):=by
        rw[AV (Km (by simp;omega)),show wr .i64 ((i:Int)+1)=((i+1:Nat):Int) by rw[AR (by omega)];omega,show List.map AJ out++[AJ c]=List.map AJ (out++[c]) by simp]
        exact Om hb k t (i+1) (out++[c]) hd (by omega) (by omega) (by simp;omega)
      cases hu:Gy c
      · rw[if_neg (by decide),Bool.false_or]
        cases hk2:also.contains c
        · rfl
        · simpa using step
      · rw[if_pos rfl]
        simpa using step
end
theorem F8 (s also:List UInt8) (hN:20000≤N):Bt N s also=some (CE N s also):=by
  unfold Bt CE
  by_cases h:s.length>16384
  · rw[if_pos (by simp;omega),if_pos h]
  · rw[if_neg (by simp;omega),if_neg h,AB]
    exact Om (l:=s) (by omega) N s 0 [] rfl (by omega) (by omega) (by simp)
end
end Go.VM
namespace Go.VM
section
variable{N:Nat}
theorem MG{l:List UInt8}{i:Nat}{c:UInt8} (h:l[i]?=some c) (hc:c.toNat<128):Cm l i=(c.toNat,1):=by
  have hi:i<l.length:=by
    rcases Nat.lt_or_ge i l.length with h'|h'
    · exact h'
    · rw[List.getElem?_eq_none h']at h;cases h
  have e:l[i]=c:=by rw[List.getElem?_eq_getElem hi]at h;exact Option.some.inj h
  unfold Cm
  have hs:i<(⟨l.toArray⟩:ByteArray).size:=hi
  have hx:((⟨l.toArray⟩:ByteArray)[i]'hs)=c:=e
  rw[decode_ascii _ i hs (by rw[hx];exact hc),hx]
theorem AJm{set:List UInt8}{c:UInt8} (hc:c.toNat<128):DC N set ((c.toNat:Nat):Int)=some (Go.Lib.indexByte set c):=by
  unfold DC
  dsimp only[AB]
  have e:wr .u8 ((c.toNat:Nat):Int)=AJ c:=by rw[WG (by omega)];rfl
  rw[if_pos (by simp),if_pos (by simpa using(by omega:(c.toNat:Int)<128)),e,JE];rfl
def AK6 (set l:List UInt8):Int:=if(l.any set.contains)=true then(((l.takeWhile fun c=>!set.contains c).length:Nat):Int)else-1
theorem V7{as:List Bool}{set:List UInt8} (hs:AEj as set) (k17:List Bool→Option Int): ∀(l:List UInt8) (i:Int),
    CQ N k17 l i as=if(l.any set.contains)=true then some (i+(((l.takeWhile fun c=>!set.contains c).length:Nat):Int))else k17 as
  |[],i=>by rw[CQ];rfl
  | c::l,i=>by
    rw[CQ,AEJ hs,Option.bind_some]
    dsimp only
    cases h:set.contains c
    · rw[if_neg (by decide),V7 hs k17 l (i+1)]
      simp only[List.any_cons,h,Bool.false_or,List.takeWhile_cons,Bool.not_false,if_true,List.length_cons]
      split
      · congr 1;omega
      · rfl
    · have hw:((c::l).takeWhile fun c=>!set.contains c)=[]:=by rw[List.takeWhile_cons,h];rfl
      rw[if_pos rfl,List.any_cons,h,Bool.true_or,if_pos rfl,hw];simp
theorem WV{set l:List UInt8} (k24:Unit→Option Int): ∀(t pre:List UInt8) (k:Nat),l=pre++t→t.length<k→(∀c,c∈(t.takeWhile fun c=>!set.contains c)→c.toNat<128)→(∀c,c∈set→c.toNat<128)→
    BU N l set k24 k pre.length=if(t.any set.contains)=true then some (((pre.length+(t.takeWhile fun c=>!set.contains c).length:Nat):Int))else k24 ()
  |_,_,0,_,h,_,_=>by omega
  | [],pre,k+1,h,_,_,_=>by
    rw[BU,if_neg (by rw[h];simp)];rfl
  | c::t,pre,k+1,h,hk,ha,hset=>by
    simp only[List.length_cons]at hk
    have hget:l[pre.length]?=some c:=by rw[h,List.getElem?_append_right (Nat.le_refl _),Nat.sub_self];rfl
    have hc:c.toNat<128:=by
      cases hx:set.contains c
      · exact ha c (by rw[List.takeWhile_cons,hx];simp)
      · exact hset c (by simpa using hx)
    rw[BU,if_pos (by rw[h];simp),MG hget hc]
    dsimp only
    rw[AJm hc,Option.bind_some,Hw]
    cases hx:set.contains c
    · rw[if_neg (by decide)]
      have:=WV (l:=l) (set:=set) k24 t (pre++[c]) k (by rw[h];simp) (by omega) (fun x hm=>ha x (by simp only[List.takeWhile_cons,hx,Bool.not_false,if_true,List.mem_cons];exact .inr hm)) hset
      rw[List.length_append,List.length_singleton]at this
      rw[this]
      simp only[List.any_cons,hx,Bool.false_or,List.takeWhile_cons,Bool.not_false,if_true,List.length_cons]
      split
      · congr 2;omega
      · rfl
    · have hw:((c::t).takeWhile fun c=>!set.contains c)=[]:=by rw[List.takeWhile_cons,hx];rfl
      rw[if_pos rfl,List.any_cons,hx,Bool.true_or,if_pos rfl,hw];simp
theorem Ww{set l:List UInt8} (h2:2≤set.length) (hs:set.length≤1000) (hset: ∀c,c∈set→c.toNat<128) (ha:l.length≤8→ ∀c,c∈(l.takeWhile fun c=>!set.contains c)→c.toNat<128) (hb:l.length≤1000000) (hN:20≤N):
    strings_IndexAny N l set=some (AK6 set l):=by
  unfold strings_IndexAny AK6
  have hne:set≠ []:=fun e=>by subst e;simp at h2
  have hsh:strings_shouldUseASCIISet N (l.length:Int)=some (decide ((l.length:Int)>8)):=rfl
  obtain⟨as,e1,e2⟩:=AQA (N:=N) set hset hs
  rw[if_neg (by simpa using hne),if_neg (by simp;omega)]
  dsimp only[AB]
  rw[hsh,Option.bind_some]
  by_cases h:l.length>8
  · rw[if_pos (by simp;omega),e1,Option.bind_some,AV Ul]
    dsimp only
    rw[AV e2.1,if_pos rfl,Be (by omega),V7 e2]
    split<;>simp
  · rw[if_neg (by simp;omega),show(0:Nat)=([]:List UInt8).length from rfl,WV (l:=l) _ l [] N rfl (by omega) (ha (by omega)) hset]
    split<;>simp
end
end Go.VM
namespace Go.VM
section
variable{N:Nat}
theorem AYl (l:List UInt8) (i:Nat):(⟨l.toArray⟩:ByteArray).get! i=l.getD i 0:=by
  change l.toArray[i]!=_
  rw[List.getElem!_toArray,List.getElem!_eq_getElem?_getD,List.getD_eq_getElem?_getD];rfl
theorem V5{l:List UInt8}{j:Nat} (h:j<l.length∧(l.getD j 0).toNat / 64=2): ∀d,l[j]?=some d→128≤d.toNat:=fun d hd=>by
  have e:l.getD j 0=d:=by rw[List.getD_eq_getElem?_getD,hd];rfl
  rw[e]at h;omega
theorem ATk{l:List UInt8}{i:Nat}{c:UInt8} (h:l[i]?=some c) (hc:128≤c.toNat):
    ∃r w,Cm l i=(r,w)∧128≤r∧r≤1114111∧(Go.Utf8.valid r=true)∧1≤w∧i+w≤l.length∧ ∀j,j<w→ ∀d,l[i+j]?=some d→128≤d.toNat:=by
  have hi:i<l.length:=by
    rcases Nat.lt_or_ge i l.length with h'|h'
    · exact h'
    · rw[List.getElem?_eq_none h']at h;cases h
  have h0:l.getD i 0=c:=by rw[List.getD_eq_getElem?_getD,h];rfl
  have one: ∀j,j<1→ ∀d,l[i+j]?=some d→128≤d.toNat:=fun j hj d hd=>by
    obtain rfl:j=0:=by omega
    rw[Nat.add_zero,h]at hd;cases hd;exact hc
  have bad: ∃r w,(Go.Utf8.runeError,1)=(r,w)∧128≤r∧r≤1114111∧(Go.Utf8.valid r=true)∧1≤w∧i+w≤l.length∧ ∀j,j<w→ ∀d,l[i+j]?=some d→128≤d.toNat:=
    ⟨_,_,rfl,by decide,by decide,by decide,Nat.le_refl 1,by omega,one⟩
  have hsz:(⟨l.toArray⟩:ByteArray).size=l.length:=rfl
  unfold Cm Go.Utf8.decode
  simp only[AYl,hsz,Nat.add_zero,h0]
  have hb:=UInt8.toNat_lt c
  rw[if_neg (by omega)]
  split
  · rename_i h2
    simp only[Bool.and_eq_true,beq_iff_eq,decide_eq_true_eq]at h2
    split
    · rename_i h3
      refine⟨_,_,rfl,by omega,by omega,?_,by omega,by omega,fun j hj=>?_⟩
      · unfold Go.Utf8.valid;simp only[Bool.or_eq_true,Bool.and_eq_true,decide_eq_true_eq];omega
      · rcases (by omega:j=0∨j=1)with rfl|rfl
        · exact one 0 (by omega)
        · exact V5 h2.2
    · exact bad
  split
  · rename_i h2
    simp only[Bool.and_eq_true,beq_iff_eq,decide_eq_true_eq]at h2
    split
    · rename_i h3
      simp only[Bool.and_eq_true,ge_iff_le,decide_eq_true_eq]at h3
      refine⟨_,_,rfl,by omega,by omega,h3.2,by omega,by omega,fun j hj=>?_⟩
      rcases (by omega:j=0∨j=1∨j=2)with rfl|rfl|rfl
      · exact one 0 (by omega)
      · exact V5 h2.1.2
      · exact V5 h2.2
    · exact bad
  split
  · rename_i h2
    simp only[Bool.and_eq_true,beq_iff_eq,decide_eq_true_eq]at h2
    split
    · rename_i h3
      simp only[Bool.and_eq_true,ge_iff_le,decide_eq_true_eq]at h3
      have hv:=h3.2
      unfold Go.Utf8.valid at hv
      simp only[Bool.or_eq_true,Bool.and_eq_true,decide_eq_true_eq]at hv
      refine⟨_,_,rfl,by omega,by omega,h3.2,by omega,by omega,fun j hj=>?_⟩
      rcases (by omega:j=0∨j=1∨j=2∨j=3)with rfl|rfl|rfl|rfl
      · exact one 0 (by omega)
      · exact V5 h2.1.1.2
      · exact V5 h2.1.2
      · exact V5 h2.2
    · exact bad
  · exact bad
theorem ACi{l:List UInt8}{set:List UInt8}: ∀(w i:Nat),i+w≤l.length→(∀j,j<w→ ∀d,l[i+j]?=some d→set.contains d=false)→
    (l.drop i).any set.contains=(l.drop (i+w)).any set.contains∧((l.drop i).takeWhile fun c=>!set.contains c).length=w+((l.drop (i+w)).takeWhile fun c=>!set.contains c).length
  |0,i,_,_=>by simp
  | w+1,i,h,hs=>by
    have hi:i<l.length:=by omega
    have h0:=hs 0 (by omega) l[i] (by rw[show i+0=i from rfl,List.getElem?_eq_getElem hi])
    obtain⟨e1,e2⟩:=ACi (l:=l) (set:=set) w (i+1) (by omega) fun j hj d hd=>hs (j+1) (by omega) d (by rw[show i+(j+1)=i+1+j by omega];exact hd)
    rw[List.drop_eq_getElem_cons hi,List.any_cons,h0,Bool.false_or,e1,List.takeWhile_cons,h0]
    simp only[Bool.not_false,if_true,List.length_cons]
    rw[e2,show i+1+w=i+(w+1) by omega]
    exact⟨rfl,by omega⟩
theorem AHb{r:Nat} (hv:Go.Utf8.valid r=true):Go.Utf8.encode (r:Int)=(if r<128 then⟨#[UInt8.ofNat r]⟩else if r<2048 then⟨#[UInt8.ofNat (0xC0+r / 64),UInt8.ofNat (0x80+r % 64)]⟩
  else if r<65536 then⟨#[UInt8.ofNat (0xE0+r / 4096),UInt8.ofNat (0x80+r / 64 % 64),UInt8.ofNat (0x80+r % 64)]⟩
  else⟨#[UInt8.ofNat (0xF0+r / 262144),UInt8.ofNat (0x80+r / 4096 % 64),UInt8.ofNat (0x80+r / 64 % 64),UInt8.ofNat (0x80+r % 64)]⟩:ByteArray):=by
  have e:(if Go.Utf8.valid r=true then(r:Int).toNat else Go.Utf8.runeError)=r:=by rw[if_pos hv];rfl
  unfold Go.Utf8.encode
  simp only[e]
theorem AQi{n:Nat} (h:n<64):128≤(UInt8.ofNat (0x80+n)).toNat:=by
  rw[UInt8.toNat_ofNat'];omega
theorem enc2{r:Nat} (hv:Go.Utf8.valid r=true) (h1: ¬r<128) (h2:r<2048): ∃a b,Go.Utf8.encode (r:Int)=⟨#[a,b]⟩∧128≤b.toNat:=by
  rw[AHb hv,if_neg h1,if_pos h2]
  exact⟨_,_,rfl,AQi (Nat.mod_lt _ (by omega))⟩
theorem enc3{r:Nat} (hv:Go.Utf8.valid r=true) (h1: ¬r<128) (h2: ¬r<2048) (h3:r<65536): ∃a b c,Go.Utf8.encode (r:Int)=⟨#[a,b,c]⟩∧128≤c.toNat:=by
  rw[AHb hv,if_neg h1,if_neg h2,if_pos h3]
  exact⟨_,_,_,rfl,AQi (Nat.mod_lt _ (by omega))⟩
theorem enc4{r:Nat} (hv:Go.Utf8.valid r=true) (h1: ¬r<128) (h2: ¬r<2048) (h3: ¬r<65536): ∃a b c d,Go.Utf8.encode (r:Int)=⟨#[a,b,c,d]⟩∧128≤d.toNat:=by
  rw[AHb hv,if_neg h1,if_neg h2,if_neg h3]
  exact⟨_,_,_,_,rfl,AQi (Nat.mod_lt _ (by omega))⟩
theorem Aaf{a b:UInt8}:(⟨#[a,b]⟩:ByteArray).data.toList=[a,b]:=rfl
theorem Aam{a b c:UInt8}:(⟨#[a,b,c]⟩:ByteArray).data.toList=[a,b,c]:=rfl
theorem AaE{a b c d:UInt8}:(⟨#[a,b,c,d]⟩:ByteArray).data.toList=[a,b,c,d]:=rfl
def HiT (u:List UInt8):Prop:= ∃k c,u.length=k+2∧k≤2∧u[k+1]?=some c∧128≤c.toNat
theorem AbW{a b:UInt8} (h:128≤b.toNat):HiT [a,b]:=⟨0,b,rfl,by omega,rfl,h⟩
theorem AbV{a b c:UInt8} (h:128≤c.toNat):HiT [a,b,c]:=⟨1,c,rfl,by omega,rfl,h⟩
theorem AbL{a b c d:UInt8} (h:128≤d.toNat):HiT [a,b,c,d]:=⟨2,d,rfl,by omega,rfl,h⟩
theorem Abc{r:Nat} (hv:Go.Utf8.valid r=true) (h1: ¬r<128) (h:r<2048):HiT (Go.Utf8.encode (r:Int)).data.toList:=by
  obtain⟨a,b,e,hb⟩:=enc2 hv h1 h
  rw[e,Aaf];exact AbW hb
theorem Abj{r:Nat} (hv:Go.Utf8.valid r=true) (h1: ¬r<128) (h: ¬r<2048) (h':r<65536):HiT (Go.Utf8.encode (r:Int)).data.toList:=by
  obtain⟨a,b,c,e,hb⟩:=enc3 hv h1 h h'
  rw[e,Aam];exact AbV hb
theorem AbA{r:Nat} (hv:Go.Utf8.valid r=true) (h1: ¬r<128) (h: ¬r<2048) (h': ¬r<65536):HiT (Go.Utf8.encode (r:Int)).data.toList:=by
  obtain⟨a,b,c,d,e,hb⟩:=enc4 hv h1 h h'
  rw[e,AaE];exact AbL hb
theorem hiu{r:Nat} (hv:Go.Utf8.valid r=true) (h1: ¬r<128):HiT (Go.Utf8.encode (r:Int)).data.toList:=
  (Classical.em (r<2048)).elim (fun h=>Abc hv h1 h) fun h=>(Classical.em (r<65536)).elim (fun h'=>Abj hv h1 h h') fun h'=>AbA hv h1 h h'
theorem ALR (q:Int):G5 q=(Go.Utf8.encode q).data.toList:=by rw[G5]
theorem AVv{r:Nat} (hv:Go.Utf8.valid r=true) (h1: ¬r<128):HiT (G5 (r:Int)):=(ALR r).symm▸hiu hv h1
theorem AYU{q:Int} (h:0≤q) (k:q<55296∨(57343<q∧q≤1114111)):CY N q=some true:=by
  unfold CY
  have h0:decide (0≤q)=true:=decide_eq_true h
  by_cases h':q<55296
  · have h1:=decide_eq_true h'
    simp only[AB,h0,h1,if_true]
  · have h1:=decide_eq_false h'
    have h2:decide (57343<q)=true:=decide_eq_true (by omega)
    have h3:decide (q≤1114111)=true:=decide_eq_true (by omega)
    simp only[AB,h0,h1,h2,h3,if_true,Bool.false_eq_true,if_false]
theorem ATj{r:Nat} (hv:Go.Utf8.valid r=true):CY N r=some true:=by
  unfold Go.Utf8.valid at hv
  simp only[Bool.or_eq_true,Bool.and_eq_true,decide_eq_true_eq]at hv
  exact AYU (by omega) (by omega)
theorem AW8{q:Int}{u:List UInt8} (hu:G5 q=u){k15:Unit→Option Int} (n s9:Nat) (w:wr .i64 ((u.length:Int)-1)=(s9:Int)){c x:UInt8} (hx:([58,47]:List UInt8)[s9]?=some x) (hc:u[s9]?=some c) (hne:(AJ x !=AJ c)=true){t:List UInt8} (ht:sub ([58,47]:List UInt8) (wr .i64 ((s9:Int)+1)) ((([58,47]:List UInt8).length:Nat):Int)=some t) (hb:strings_IndexByte N t (AJ c)=some (-1)) (hlt:s9<2):
    Bb N [58,47] q k15 (n+1) (s9:Int)=some (-1):=by
  have e9:decide ((s9:Int)<((([58,47]:List UInt8).length:Nat):Int))=true:=by simp only[decide_eq_true_eq,List.length_cons,List.length_nil];omega
  rw[Bb,if_pos e9]
  simp only[AB]
  rw[hu,w,IC,IC,hx,Option.bind_some,hc,Option.bind_some,if_pos hne,ht,Option.bind_some,hb,Option.bind_some]
  rfl
theorem APY{r:Nat}{k15:Unit→Option Int} (hr:128≤r) (hv:Go.Utf8.valid r=true) (hk:k15 ()=some (-1)) (n:Nat):Bb N [58,47] (r:Int) k15 (n+1) (wr .i64 (((G5 (r:Int)).length:Int)-1))=some (-1):=by
  obtain⟨k,c,e1,e2,e3,e4⟩:=AVv hv (by omega)
  have w:wr .i64 (((G5 (r:Int)).length:Int)-1)=((k+1:Nat):Int):=by rw[e1,AR (by omega)];omega
  have hc:c≠47:=fun e=>by rw[e]at e4;revert e4;decide
  generalize (r:Int)=q at *
  rw[w]
  rcases (by omega:k=0∨ ¬k=0)with h0|h0
  · subst h0
    exact AW8 (t:=[]) rfl n 1 w rfl e3 (by rw[bne,AUv];simp;exact fun e=>hc e.symm) rfl (by rw[JE];rfl) (by omega)
  · rw[Bb,if_neg (by simp only[decide_eq_true_eq,List.length_cons,List.length_nil];omega),hk]
theorem irh{r:Nat} (h0:decide (0≤(r:Int))=true) (h1:decide ((r:Int)<128)=false):DC N [58,47] (r:Int)=if((r:Int)==65533)=true then Ba N [58,47] (fun _=>some (-1)) N 0 else Option.bind (CY N r) fun y12=>if y12=true then Bb N [58,47] r (fun _=>some (-1)) N (wr .i64 (((G5 r).length:Int)-1))else some (-1):=by
  generalize (r:Int)=q at *
  unfold DC
  dsimp only[AB]
  rw[if_pos h0,h1,if_neg (by decide)]
theorem AP0{r:Nat} (hr:128≤r) (hv:Go.Utf8.valid r=true) (hN:20≤N):DC N [58,47] (r:Int)=some (-1):=by
  obtain⟨n,rfl⟩: ∃n,N=n+3:=⟨N-3,by omega⟩
  rw[irh (decide_eq_true (by omega)) (decide_eq_false (by omega))]
  by_cases h:((r:Int)==65533)=true
  · have d0:Cm ([58,47]:List UInt8) 0=(58,1):=MG (c:=58) rfl (by decide)
    have d1:Cm ([58,47]:List UInt8) 1=(47,1):=MG (c:=47) rfl (by decide)
    rw[if_pos h,Ba,if_pos (by decide),d0,if_neg (by decide)]
    rw[Ba,if_pos (by decide),show(0:Nat)+((58:Nat),(1:Nat)).2=1 from rfl,d1,if_neg (by decide)]
    rw[Ba,if_neg (by decide)]
  · rw[if_neg h,ATj hv,Option.bind_some,if_pos rfl]
    exact APY hr hv rfl _
theorem Ra{l:List UInt8} (hN:20≤N) (k24:Unit→Option Int): ∀(k i:Nat),i≤l.length→l.length-i<k→
    BU N l [58,47] k24 k i=if((l.drop i).any ([58,47]:List UInt8).contains)=true then some (((i+((l.drop i).takeWhile fun c=>!([58,47]:List UInt8).contains c).length:Nat):Int))else k24 ()
  |0,i,_,h=>by omega
  | k+1,i,hi,hk=>by
    rw[BU]
    by_cases he:i<l.length
    case neg=>rw[if_neg (by simpa using he),List.drop_of_length_le (by omega)];rfl
    rw[if_pos (by simpa using he)]
    have hget:l[i]?=some l[i]:=List.getElem?_eq_getElem he
    by_cases hc:l[i].toNat<128
    · rw[MG hget hc]
      dsimp only
      rw[AJm hc,Option.bind_some,Hw,List.drop_eq_getElem_cons he,List.any_cons,List.takeWhile_cons]
      cases hx:([58,47]:List UInt8).contains l[i]
      · rw[if_neg (by decide),Ra hN k24 k (i+1) (by omega) (by omega)]
        simp only[Bool.false_or,Bool.not_false,if_true,List.length_cons]
        rw[show i+(((l.drop (i+1)).takeWhile fun c=>!([58,47]:List UInt8).contains c).length+1)=i+1+((l.drop (i+1)).takeWhile fun c=>!([58,47]:List UInt8).contains c).length by omega]
      · rw[if_pos rfl];simp
    · obtain⟨r,w,e1,e2,e3,e4,e5,e6,e7⟩:=ATk hget (by omega)
      rw[e1]
      dsimp only
      rw[AP0 e2 e4 hN,Option.bind_some,if_neg (by decide),Ra hN k24 k (i+w) (by omega) (by omega)]
      obtain⟨s1,s2⟩:=ACi (set:=[58,47]) w i e6 fun j hj d hd=>by
        have:=e7 j hj d hd
        have h1:d≠58:=fun e=>by subst e;revert this;decide
        have h2:d≠47:=fun e=>by subst e;revert this;decide
        simp[h1,h2]
      rw[s1,s2,show i+(w+((l.drop (i+w)).takeWhile fun c=>!([58,47]:List UInt8).contains c).length)=i+w+((l.drop (i+w)).takeWhile fun c=>!([58,47]:List UInt8).contains c).length by omega]
theorem AOR{l:List UInt8} (hb:l.length≤1000000) (hN:20≤N):strings_IndexAny N l [58,47]=some (AK6 [58,47] l):=by
  by_cases h:l.length>8
  · exact Ww (by decide) (by decide) (by decide) (fun h'=>absurd h' (by omega)) hb hN
  · have hsh:strings_shouldUseASCIISet N (l.length:Int)=some (decide ((l.length:Int)>8)):=rfl
    unfold strings_IndexAny AK6
    rw[if_neg (by decide),if_neg (by decide)]
    dsimp only[AB]
    rw[hsh,Option.bind_some,if_neg (by simp;omega),Ra hN _ N 0 (by omega) (by omega),List.drop_zero]
    split<;>simp
end
end Go.VM
namespace Go.VM
section
variable{N:Nat}
theorem SG (set:List UInt8) (hs:set.length≤1000) (k2:Unit→Option Int) (n:Int) (h:k2 ()=some n): ∀(l:List UInt8) (i:Nat),((i+l.length:Nat):Int)=n→Ce N set k2 l (i:Int)=some ((i+(l.takeWhile fun c=>!set.contains c).length:Nat):Int)
  |[],i,hn=>by rw[Ce,h,←hn];simp
  | c::l,i,hn=>by
    rw[Ce,Uw _ _ hs,Option.bind_some,List.takeWhile_cons]
    cases hc:set.contains c
    · simp only[List.length_cons]at hn
      rw[if_neg (by decide),show(i:Int)+1=((i+1:Nat):Int) by simp,SG set hs k2 n h l (i+1) (by rw[←hn];congr 1;omega)]
      simp only[Bool.not_false,if_true,List.length_cons];congr 2;omega
    · simp
theorem JB (l set:List UInt8) (hs:set.length≤1000) (hb:l.length≤2^60):BC N l set=some (((l.takeWhile fun c=>!set.contains c).length:Nat):Int):=by
  unfold BC
  rw[AB,AV (by unfold AO;omega),show(0:Int)=((0:Nat):Int)from rfl,SG set hs _ _ rfl l 0 (by simp)]
  simp
section
variable{s sg W F FR P EX:List UInt8}
end
end
end Go.VM
namespace Go.VM
section
variable{N:Nat}
def preB (p l:List UInt8):Bool:=if p.length≤l.length then l.take p.length==p else false
theorem APy (p l:List UInt8):BG N l p=some (preB p l):=by
  unfold BG preB
  by_cases h:p.length≤l.length
  · rw[if_pos (by simp;omega),if_pos h,show(0:Int)=((0:Nat):Int)from rfl,DI l 0 _ (Nat.zero_le _) h,Option.bind_some];simp
  · rw[if_neg (by simp;omega),if_neg h]
theorem Od (p l:List UInt8):strings_HasPrefix N l p=some (preB p l):=by
  unfold strings_HasPrefix;rw[APy];rfl
theorem NC (p l:List UInt8):Dx N l p=some (preB p l):=by
  unfold Dx preB
  by_cases h:p.length≤l.length
  · rw[if_pos (by simp;omega),if_pos h,show(0:Int)=((0:Nat):Int)from rfl,DI l 0 _ (Nat.zero_le _) h,Option.bind_some];simp
  · rw[if_neg (by simp;omega),if_neg h]
theorem TF{p l:List UInt8} (h:preB p l=true): ∃t,l=p++t:=by
  unfold preB at h
  split at h
  · have:=beq_iff_eq.1 h
    exact⟨l.drop p.length,by conv=>lhs;rw[←List.take_append_drop p.length l,this]⟩
  · cases h
theorem CK{l:List UInt8}{n:Nat} (h:n≤l.length):sub l (n:Int) (l.length:Int)=some (l.drop n):=by
  rw[DI l n l.length h (Nat.le_refl _),List.take_of_length_le (by simp)]
theorem AGD (p l:List UInt8):strings_TrimPrefix N l p=some (if preB p l=true then l.drop p.length else l):=by
  unfold strings_TrimPrefix DR
  rw[APy,Option.bind_some]
  by_cases h:preB p l=true
  · obtain⟨t,rfl⟩:=TF h
    rw[if_pos h,if_pos h,CK (by simp),Option.bind_some,Option.bind_some]
  · rw[if_neg h,if_neg h];rfl
theorem AJ6 (p l:List UInt8):strings_CutPrefix N l p=some (if preB p l=true then(l.drop p.length,true)else(l,false)):=by
  unfold strings_CutPrefix DZ
  rw[APy,Option.bind_some]
  by_cases h:preB p l=true
  · obtain⟨t,rfl⟩:=TF h
    rw[if_pos h,if_pos h,CK (by simp),Option.bind_some,Option.bind_some]
  · rw[if_neg h,if_neg h];rfl
def Kt (l:List UInt8):Nat→Option Nat
  |0=>none
  |n+1=>if l[n]?=some 47 then some n else Kt l n
theorem Qj{l:List UInt8}{i:Nat}: ∀ {n:Nat},Kt l n=some i→i<n
  |0,h=>by cases h
  | n+1,h=>by
    rw[Kt]at h
    split at h
    · cases h;omega
    · have:=Qj h;omega
theorem b47 (c:UInt8):(AJ c==47)=decide (c=47):=by
  have:=DV (f:=fun n=>((n:Int)==47)) (g:=fun n=>decide (UInt8.ofNat n=47)) (by kernel_rfl) c
  simp only[UInt8.ofNat_toNat]at this
  exact this
theorem WZ{l:List UInt8} (hb:l.length≤1000000): ∀(n k:Nat),n≤l.length→n<k→
    AX N l 47 (fun _=>some (-1)) k ((n:Int)-1)=some (match Kt l n with|some i=>(i:Int)|none=> -1)
  |n,0,_,h=>by omega
  |0,k+1,_,_=>by rw[AX,if_neg (by decide)];rfl
  | n+1,k+1,hn,hk=>by
    rw[AX,if_pos (by simp),show((n+1:Nat):Int)-1=(n:Int) by omega,IC,List.getElem?_eq_getElem (by omega),Option.bind_some,b47,Kt,List.getElem?_eq_getElem (by omega)]
    by_cases h:l[n]=47
    · rw[decide_eq_true h,if_pos rfl,if_pos (by rw[h])]
    · rw[decide_eq_false h,if_neg (by decide),if_neg (by simpa using h),AR (by omega)]
      exact WZ hb n k (by omega) (by omega)
theorem WR (l:List UInt8) (hb:l.length≤1000000) (hN:l.length<N):strings_LastIndexByte N l 47=some (match Kt l l.length with|some i=>(i:Int)|none=> -1):=by
  unfold strings_LastIndexByte CP
  rw[AB,AR (by omega),WZ hb l.length N (Nat.le_refl _) hN];rfl
def Gz (l:List UInt8):List UInt8:=match Kt l l.length with|some i=>l.take i|none=>[]
theorem UI{l:List UInt8} (hb:l.length≤1000000): ∀(n k:Nat),n≤l.length→n<k→
    Da N l (fun _=>some []) k ((n:Int)-1)=some (match Kt l n with|some i=>l.take i|none=>[])
  |n,0,_,h=>by omega
  |0,k+1,_,_=>by rw[Da,if_neg (by decide)];rfl
  | n+1,k+1,hn,hk=>by
    rw[Da,if_pos (by simp),show((n+1:Nat):Int)-1=(n:Int) by omega,IC,List.getElem?_eq_getElem (by omega),Option.bind_some,b47,Kt,List.getElem?_eq_getElem (by omega)]
    by_cases h:l[n]=47
    · rw[decide_eq_true h,if_pos rfl,if_pos (by rw[h]),show(0:Int)=((0:Nat):Int)from rfl,DI l 0 n (Nat.zero_le _) (by omega),Option.bind_some];simp
    · rw[decide_eq_false h,if_neg (by decide),if_neg (by simpa using h),AR (by omega)]
      exact UI hb n k (by omega) (by omega)
theorem V4 (l:List UInt8) (hb:l.length≤1000000) (hN:l.length<N):Gr N l=some (Gz l):=by
  unfold Gr Gz
  rw[AB,AR (by omega),UI hb l.length N (Nat.le_refl _) hN]
def KC (s:List UInt8):Nat:=1+((s.drop 1).takeWhile (· !=47)).length
def Hf:Nat→List UInt8→List UInt8→List UInt8
  |0,_,_=>[]
  | k+1,s,out=>
    if s=[]then out
    else if preB [46,46,47] s=true then Hf k (s.drop 3) out
    else if preB [46,47] s=true then Hf k (s.drop 2) out
    else if preB [47,46,47] s=true then Hf k (s.drop 2) out
    else if s=[47,46]then Hf k [47] out
    else if preB [47,46,46,47] s=true then Hf k (s.drop 3) (Gz out)
    else if s=[47,46,46]then Hf k [47] (Gz out)
    else if s=[46]∨s=[46,46]then Hf k [] out
    else Hf k (s.drop (KC s)) (out++s.take (KC s))
theorem OW (l:List UInt8):(Gz l).length≤l.length:=by
  unfold Gz;split<;>simp<;>omega
theorem ASI{s:List UInt8} (h:s≠ []):KC s≤s.length:=by
  cases s with
  |nil=>exact absurd rfl h
  |cons c t=>unfold KC;have:=LB (· !=(47:UInt8)) t;simp only[List.drop_one,List.tail_cons,List.length_cons];omega
theorem Ky{p l:List UInt8} (h:preB p l=true):p.length≤l.length:=by
  obtain⟨t,rfl⟩:=TF h;simp
theorem IB (hN:20000≤N) (k2:List UInt8→Option (List UInt8)): ∀(k:Nat) (s out:List UInt8),s.length<k→s.length+out.length≤16400→Ae N k2 k s out=k2 (Hf k s out)
  |0,s,out,h,_=>by omega
  | k + 1, s,out,hk,hb=>by
    rw[Ae,Hf]
    by_cases h0:s=[]
    · rw[if_pos (by simpa using h0),if_pos h0]
    have hpos:0<s.length:=List.length_pos_iff.2 h0
    have hso:=OW out
    rw[if_neg (by simpa using h0),if_neg h0,NC,Option.bind_some]
    by_cases h1:preB [46,46,47] s=true
    · have:=Ky h1;simp only[List.length_cons,List.length_nil]at this
      rw[if_pos h1,if_pos h1,show(3:Int)=((3:Nat):Int)from rfl,CK (by omega),Option.bind_some]
      exact IB hN k2 k _ out (by simp;omega) (by simp;omega)
    rw[if_neg h1,if_neg h1,NC,Option.bind_some]
    by_cases h2:preB [46,47] s=true
    · have:=Ky h2;simp only[List.length_cons,List.length_nil]at this
      rw[if_pos h2,if_pos h2,show(2:Int)=((2:Nat):Int)from rfl,CK (by omega),Option.bind_some]
      exact IB hN k2 k _ out (by simp;omega) (by simp;omega)
    rw[if_neg h2,if_neg h2,NC,Option.bind_some]
    by_cases h3:preB [47,46,47] s=true
    · have:=Ky h3;simp only[List.length_cons,List.length_nil]at this
      rw[if_pos h3,if_pos h3,show(2:Int)=((2:Nat):Int)from rfl,CK (by omega),Option.bind_some]
      exact IB hN k2 k _ out (by simp;omega) (by simp;omega)
    rw[if_neg h3,if_neg h3]
    by_cases h4:s=[47,46]
    · rw[if_pos (by simpa using h4),if_pos h4]
      have:=congrArg List.length h4;simp only[List.length_cons,List.length_nil]at this
      exact IB hN k2 k _ out (by simp;omega) (by simp;omega)
    rw[if_neg (by simpa using h4),if_neg h4,NC,Option.bind_some]
    by_cases h5:preB [47,46,46,47] s=true
    · have:=Ky h5;simp only[List.length_cons,List.length_nil]at this
      rw[if_pos h5,if_pos h5,show(3:Int)=((3:Nat):Int)from rfl,CK (by omega),Option.bind_some,V4 out (by omega) (by omega),Option.bind_some]
      exact IB hN k2 k _ _ (by simp;omega) (by simp;omega)
    rw[if_neg h5,if_neg h5]
    by_cases h6:s=[47,46,46]
    · rw[if_pos (by simpa using h6),if_pos h6,V4 out (by omega) (by omega),Option.bind_some]
      have:=congrArg List.length h6;simp only[List.length_cons,List.length_nil]at this
      exact IB hN k2 k _ _ (by simp;omega) (by simp;omega)
    rw[if_neg (by simpa using h6),if_neg h6]
    dsimp only[AB]
    have hdd:(if(s==([46]:List UInt8))=true then Ae N k2 k [] out else if(s==([46,46]:List UInt8))=true then Ae N k2 k [] out else Option.bind (sub s 1 (s.length:Int)) fun x26=>
           Option.bind (BC N x26 ([47]:List UInt8)) fun y27=>
           Option.bind (sub s (wr .i64 (1+y27)) (s.length:Int)) fun x29=>
           Option.bind (sub s 0 (wr .i64 (1+y27))) fun x30=>
           grd (AO (out.length+x30.length)) (
           Ae N k2 k x29 (out++x30)))=k2 (if s=[46]∨s=[46,46]then Hf k [] out else Hf k (s.drop (KC s)) (out++s.take (KC s))):=by
      have hrec:=IB hN k2 k [] out (by simp;omega) (by simp;omega)
      by_cases h7:s=[46]
      · rw[if_pos (by simpa using h7),if_pos (.inl h7)];exact hrec
      by_cases h8:s=[46,46]
      · rw[if_neg (by simpa using h7),if_pos (by simpa using h8),if_pos (.inr h8)];exact hrec
      have hw:(fun c:UInt8=>!([47]:List UInt8).contains c)=(fun c=>c !=47):=by funext c;simp[bne];rfl
      have hsl:=ASI h0
      rw[if_neg (by simpa using h7),if_neg (by simpa using h8),if_neg (by rintro(h|h);exact h7 h;exact h8 h),show(1:Int)=((1:Nat):Int)from rfl,CK (by omega),Option.bind_some,JB _ [47] (by decide) (by simp;omega),Option.bind_some,hw]
      have e:wr .i64 (((1:Nat):Int)+(((s.drop 1).takeWhile (fun c=>c !=47)).length:Int))=((KC s:Nat):Int):=by
        unfold KC at hsl⊢;rw[AR (by omega)];omega
      rw[e,CK hsl,Option.bind_some,show(0:Int)=((0:Nat):Int)from rfl,DI s 0 _ (Nat.zero_le _) hsl,Option.bind_some,Be (by simp;omega),List.drop_zero,Nat.sub_zero]
      have h1s:1≤KC s:=by unfold KC;omega
      exact IB hN k2 k _ _ (by simp;omega) (by simp;omega)
    by_cases h7:(s==([46]:List UInt8))=true
    · rw[if_pos h7]at hdd⊢;rw[if_pos rfl];exact hdd
    · rw[if_neg h7]at hdd⊢;exact hdd
theorem Qw (s:List UInt8) (hN:20000≤N) (hb:s.length≤16400):Cs N s=some (Hf N s []):=by
  unfold Cs
  rw[AB,IB hN _ N s [] (by omega) (by simpa using hb)]
end
end Go.VM
namespace Go.VM
section
variable{N:Nat}
theorem Wo (l:List UInt8) (hb:l.length≤2^60) (k2:List Int→Option (List UInt8)): ∀(t pre:List UInt8),l=pre++t→EO N l k2 t (pre.length:Int) (List.map AJ (pre.map FK)++List.map AJ t)=k2 (List.map AJ (l.map FK))
  |[],pre,h=>by rw[EO,h];simp
  | c::t,pre,h=>by
    have hlen:pre.length<l.length:=by rw[h];simp
    have hc:=c.toNat_lt
    have next:=Wo l hb k2 t (pre++[c]) (by rw[h];simp)
    rw[←OI]at next
    have hi:idx (List.map AJ (pre.map FK)++List.map AJ (c::t)) (pre.length:Int)=some (AJ c):=by
      have:=YV (List.map AJ (pre.map FK)) (List.map AJ t) (AJ c)
      simpa using this
    have hset:(List.map AJ (pre.map FK)++List.map AJ (c::t)).set pre.length (AJ (FK c))=List.map AJ ((pre++[c]).map FK)++List.map AJ t:=by simp
    rw[EO]
    dsimp only[AB]
    rw[AV (by omega),hi,Option.bind_some]
    by_cases h1:65≤c.toNat∧c.toNat≤90
    · have e:FK c=UInt8.ofNat (c.toNat+32):=by unfold FK ATC;rw[if_pos h1]
      have e2:AJ (FK c)=wr .u8 (AJ c+32):=by
        rw[e,WG (by simp only[AJ];omega)]
        simp only[AJ]
        rw[toNat_ofNat (by omega)];simp
      rw[if_pos (by have:=Ig c;rw[decide_eq_true_eq];omega),if_pos (by have:=Ig c;rw[decide_eq_true_eq];omega),AV (by omega),Option.bind_some,AV (by simp<;>omega),←e2]
      rw[show((pre.length:Nat):Int).toNat=pre.length from rfl,hset]
      exact next
    · have e:FK c=c:=by unfold FK ATC;rw[if_neg h1];simp
      have e3:List.map AJ ((pre++[c]).map FK)++List.map AJ t=List.map AJ (pre.map FK)++List.map AJ (c::t):=by simp[e]
      rw[e3]at next
      by_cases h2:65≤c.toNat
      · rw[if_pos (by have:=Ig c;rw[decide_eq_true_eq];omega),if_neg (by have:=Ig c;rw[decide_eq_true_eq];omega)]
        exact next
      · rw[if_neg (by have:=Ig c;rw[decide_eq_true_eq];omega),if_neg (by decide)]
        exact next
theorem Rf (l:List UInt8) (hb:l.length≤2^60):Hy N l=some (l.map FK):=by
  unfold Hy
  rw[AB,AV (by unfold AO;omega)]
  have:=Wo (N:=N) l hb (fun j1=>grd (l.length≤j1.length∧AO l.length) (some (List.map Fx (List.take l.length j1)))) l [] rfl
  simp only[List.map_nil,List.nil_append,List.length_nil]at this
  rw[show(0:Int)=((0:Nat):Int)from rfl,this,AV (by unfold AO;simp;omega),List.take_of_length_le (by simp),I1]
theorem Wm (a b:List UInt8) (ha:a.length≤2^60) (hb:b.length≤2^60):JO N a b=some (a.map FK==b.map FK):=by
  unfold JO;rw[lower_eq a ha,Option.bind_some,lower_eq b hb,Option.bind_some]
theorem Vj (a b:List UInt8) (ha:a.length≤2^60) (hb:b.length≤2^60):JG N a b=some (a.map FK==b.map FK):=by
  unfold JG;rw[Rf a ha,Option.bind_some,Rf b hb,Option.bind_some]
def Mv (l:List UInt8):List UInt8×Int:=if l=[]then([],3)else if l.length>253 then([],5)else if(AIe l||PS l)=true then(l.map FK,0)else([],50)
theorem AO5 (l:List UInt8):LH N l=some (Mv l):=by
  unfold LH Mv
  by_cases h:l=[]
  · subst h;rfl
  rw[if_neg (by simpa using h),if_neg h]
  by_cases h2:l.length>253
  · rw[if_pos (by simp only[decide_eq_true_eq];omega),if_pos h2]
  rw[if_neg (by simp only[decide_eq_true_eq];omega),if_neg h2]
  dsimp only[AB]
  rw[AWR l (by omega),Option.bind_some,ASZ l (by omega),Option.bind_some,Rf l (by omega),Option.bind_some]
  cases AIe l<;>cases PS l<;>rfl
end
end Go.VM
namespace Go.VM
section
variable{N:Nat}
theorem OG (m:Nat) (l:List UInt8):0≤(Et m l).1∧(Et m l).1≤m:=by
  unfold Et
  split
  · simp
  · split
    · split
      · simp
      · split
        · exact⟨by simp only[];omega,by simp only[];omega⟩
        · simp
    · simp
def Ng (l:List UInt8):Int×Int:=if((Et 65535 l).2 !=0||(Et 65535 l).1==0)=true then(0,51)else((Et 65535 l).1,0)
theorem AS6 (l:List UInt8) (hb:l.length≤2^60):Mq N l=some (Ng l):=by
  have:=OG 65535 l
  unfold Mq Ng
  rw[show(65535:Int)=((65535:Nat):Int)from rfl,U3 (by decide) l hb,Option.bind_some]
  dsimp only[AB]
  rw[AR (by omega)]
  cases (Et 65535 l).2 !=0<;>cases (Et 65535 l).1==0<;>rfl
theorem AP6 (l:List UInt8) (hb:l.length≤2^60):LX N l=some (Ng l):=by
  have:=OG 65535 l
  unfold LX Ng
  rw[show(65535:Int)=((65535:Nat):Int)from rfl,Tv (by decide) (by decide) l hb,Option.bind_some]
  dsimp only[AB]
  rw[AR (by omega)]
  cases (Et 65535 l).2 !=0<;>cases (Et 65535 l).1==0<;>rfl
def hpS (l:List UInt8):ApiHostPort×Int:=
  if((Mv (AQ 58 l).1).2 !=0)=true then(⟨[],0⟩,(Mv (AQ 58 l).1).2)
  else if(AQ 58 l).2.2=true then(if((Ng (AQ 58 l).2.1).2 !=0)=true then(⟨[],0⟩,(Ng (AQ 58 l).2.1).2)else(⟨(Mv (AQ 58 l).1).1,if((Ng (AQ 58 l).2.1).1==443)=true then 0 else(Ng (AQ 58 l).2.1).1⟩,0))
  else(⟨(Mv (AQ 58 l).1).1,0⟩,0)
theorem LK{c:UInt8}: ∀l:List UInt8,l.contains c=false→l.takeWhile (· !=c)=l
  |[],_=>rfl
  | x::t,h=>by
    rw[List.contains_cons,Bool.or_eq_false_iff]at h
    have e:(x !=c)=true:=by simp only[bne_iff_ne,ne_eq];rintro rfl;simp at h
    rw[List.takeWhile_cons,e,if_pos rfl,LK t h.2]
theorem AZP (l:List UInt8) (hb:l.length≤1000000):Kg N l=some (hpS l):=by
  have hw:(fun c:UInt8=>!([58]:List UInt8).contains c)=(fun c=>c !=58):=by funext c;simp[bne];rfl
  have hle:=LB (· !=(58:UInt8)) l
  have h0:sub l 0 ((l.takeWhile (· !=(58:UInt8))).length:Int)=some (l.takeWhile (· !=(58:UInt8))):=by
    have:=DI l 0 _ (Nat.zero_le _) hle
    rw[List.drop_zero,Nat.sub_zero,F6]at this
    exact this
  unfold Kg hpS
  rw[JB l [58] (by decide) (by omega),Option.bind_some,hw,h0,Option.bind_some,AO5,Option.bind_some]
  unfold AQ
  cases hc:l.contains 58
  · have hall:l.takeWhile (· !=(58:UInt8))=l:=by
      exact LK l hc
    simp only[Bool.false_eq_true,if_false]
    rw[hall]
    by_cases h:((Mv l).2 !=0)=true
    · rw[if_pos h,if_pos h]
    · rw[if_neg h,if_neg h,if_pos (by simp)]
  · have hlt:=JV hc
    have hd:l.drop ((l.takeWhile (· !=(58:UInt8))).length+1)=(l.dropWhile (· !=(58:UInt8))).drop 1:=by
      rw[←List.drop_drop]
      congr 1
      have e:=List.takeWhile_append_dropWhile (p:=(· !=(58:UInt8))) (l:=l)
      have e2:(l.takeWhile (· !=(58:UInt8))++l.dropWhile (· !=(58:UInt8))).drop (l.takeWhile (· !=(58:UInt8))).length=l.dropWhile (· !=(58:UInt8)):=List.drop_left
      rw[e]at e2
      exact e2
    simp only[if_true]
    by_cases h:((Mv (l.takeWhile (· !=(58:UInt8)))).2 !=0)=true
    · rw[if_pos h,if_pos h]
    · rw[if_neg h,if_neg h,if_neg (by simp;omega)]
      rw[show wr .i64 (((l.takeWhile (· !=(58:UInt8))).length:Int)+1)=(((l.takeWhile (· !=(58:UInt8))).length+1:Nat):Int) by rw[AR (by omega)];omega,DI l _ _ (by omega) (by omega),Option.bind_some,hd,List.take_of_length_le (by
        have:=congrArg List.length hd
        rw[List.length_drop]at this
        omega),AP6 _ (by rw[List.length_drop];have:=(List.dropWhile_sublist (· !=(58:UInt8)) (l:=l)).length_le;omega),Option.bind_some]
      dsimp only[AB]
      by_cases hp:((Ng ((l.dropWhile (· !=(58:UInt8))).drop 1)).2 !=0)=true
      · rw[if_pos hp,if_pos hp]
      · rw[if_neg hp,if_neg hp]
        split<;>rfl
end
end Go.VM
