import Derived.Test.YtjgdhjpafjpjgaaGreatDoorL3
set_option linter.unusedVariables false
set_option linter.unusedSimpArgs false
namespace Go.VM
section
variable{N:Nat}
theorem Re (d:Bool) (b s:List UInt8) (h:b.length+s.length≤1000000000):AZ N ⟨d,b⟩ s=some ((s.length:Int),(),⟨true,b++s⟩):=by
  unfold AZ Df
  cases d<;>simp only[Bool.false_eq_true,if_false,if_true,Option.bind_some]<;>rw[AV (Km (by omega))]
def U2 (r:List UInt8) (x c:UInt8):List UInt8:=if c=x then r else [c]
theorem UU{r:List UInt8}{x:UInt8}: ∀ {l:List UInt8},l.contains x=false→l.flatMap (U2 r x)=l
  |[],_=>rfl
  | c::l,h=>by
    rw[List.contains_cons,Bool.or_eq_false_iff]at h
    have hc: ¬c=x:=by rintro rfl;simp at h
    rw[List.flatMap_cons,UU h.2,U2,if_neg hc];rfl
theorem AVg{r:List UInt8}{x:UInt8}{l:List UInt8} (h:l.contains x=true):l.flatMap (U2 r x)=(AQ x l).1++(r++(AQ x l).2.1.flatMap (U2 r x)):=by
  induction l with
  |nil=>simp at h
  | cons c t ih=>
    by_cases hc:c=x
    · subst hc
      rw[Fg h,List.flatMap_cons,U2,if_pos rfl];simp
    · have e1:(x==c)=false:=by simpa using fun e:x=c=>hc e.symm
      have e2:(c !=x)=true:=by simpa using hc
      have ht:t.contains x=true:=by rw[List.contains_cons,e1,Bool.false_or]at h;exact h
      have hi:=ih ht
      rw[Fg h,List.takeWhile_cons,e2,List.dropWhile_cons,e2,List.flatMap_cons,hi,U2,if_neg hc]
      rw[Fg ht];simp
theorem ADv{l r:List UInt8}{x:UInt8} (hb:l.length≤1000000) (hr:r.length≤3) (k18:Int×Bool×List UInt8→Option (List UInt8)): ∀(k:Nat) (t pre buf:List UInt8) (d:Bool),l=pre++t→t.count x=k→buf.length+3 * t.length≤100000000→
    ∃last pre' buf' d',l=pre'++last∧buf'++last=buf++t.flatMap (U2 r x)∧buf'.length≤100000000∧CJ N l [x] r k18 k pre.length d buf=k18 ((pre'.length:Int),d',buf')
  | 0,t,pre,buf,d,h,hk,ho=>by
    have h0:=Mj.1 hk
    exact⟨t,pre,buf,d,h,by rw[UU h0],by omega,by rw[CJ]⟩
  | k+1,t,pre,buf,d,h,hk,ho=>by
    have hl:=congrArg List.length h
    simp only[List.length_append]at hl
    have h1:t.contains x=true:=by
      cases h':t.contains x
      · have:=Mj.2 h';omega
      · rfl
    have hlt:=JV h1
    have hcnt:t.count x=(AQ x t).2.1.count x+1:=by rw[Fg h1];exact RU h1
    have hc:=FP x t
    have he:t=(AQ x t).1++(x::(AQ x t).2.1):=by
      rw[Fg h1]
      have e:=List.takeWhile_append_dropWhile (p:=(· !=x)) (l:=t)
      have hd:t.dropWhile (· !=x)=x::(t.dropWhile (· !=x)).drop 1:=by
        cases hq:t.dropWhile (· !=x)with
        |nil=>rw[hq,List.append_nil]at e;rw[e]at hlt;omega
        | cons y ys=>
          have:=List.head?_dropWhile_not (fun z=>z !=x) t
          rw[hq]at this
          simp at this
          simp[this]
      conv=>lhs;rw[←e,hd]
    have hlen:(AQ x t).1.length+1+(AQ x t).2.1.length=t.length:=by
      have:=congrArg List.length he
      simp only[List.length_append,List.length_cons]at this;omega
    have hi:(Go.Lib.indexByte t x)=((AQ x t).1.length:Int):=by rw[Ic,if_pos h1,Fg h1]
    have hlp:l=(pre++(AQ x t).1++[x])++(AQ x t).2.1:=by
      rw[h]
      conv=>lhs;rw[he]
      simp
    obtain⟨last,pre',buf',d',q1,q2,q3,q4⟩:=ADv (x:=x) hb hr k18 k (AQ x t).2.1 (pre++(AQ x t).1++[x]) (buf++(AQ x t).1++r) true hlp (by omega) (by simp only[List.length_append];omega)
    refine⟨last,pre',buf',d',q1,?_,q3,?_⟩
    · rw[q2,AVg h1];simp
    · have hdl:l.drop pre.length=t:=by rw[h,List.drop_left]
      rw[CJ,CK (by omega),Option.bind_some,hdl,Yc,Option.bind_some,hi]
      have w1:wr .i64 ((pre.length:Int)+((AQ x t).1.length:Int))=((pre.length+(AQ x t).1.length:Nat):Int):=by rw[AR (by omega)];omega
      have w2:wr .i64 (((pre.length+(AQ x t).1.length:Nat):Int)+(([x]:List UInt8).length:Int))=((pre.length+(AQ x t).1.length+1:Nat):Int):=by rw[AR (by simp;omega)];simp
      have hseg:(l.drop pre.length).take (pre.length+(AQ x t).1.length-pre.length)=(AQ x t).1:=by
        rw[hdl,Nat.add_sub_cancel_left,Fg h1]
        exact F6 ..
      rw[w1,w2,DI l _ _ (by omega) (by omega),Option.bind_some,hseg,Re _ _ _ (by omega),Option.bind_some]
      dsimp only
      rw[Re _ _ _ (by simp only[List.length_append];omega),Option.bind_some]
      dsimp only
      have e9:pre.length+(AQ x t).1.length+1=(pre++(AQ x t).1++[x]).length:=by simp only[List.length_append,List.length_cons,List.length_nil]
      rw[e9]
      exact q4
theorem OP (l:List UInt8) (x:UInt8) (r:List UInt8) (hr:r.length=3) (hb:l.length≤1000000):strings_ReplaceAll N l [x] r=some (l.flatMap (U2 r x)):=by
  have hcl:l.count x≤l.length:=List.count_le_length
  have hcnt:strings_Count N l [x]=some ((l.count x:Nat):Int):=by
    unfold strings_Count
    rw[if_neg (by exact Bool.false_ne_true),if_pos (by rfl),show idx [x] 0=some x from rfl,Option.bind_some,JA]
    rfl
  have hne: ¬(([x]:List UInt8)==r)=true:=by
    intro h
    have:=beq_iff_eq.1 h
    rw[←this]at hr;simp at hr
  unfold strings_ReplaceAll strings_Replace
  dsimp only[AB]
  rw[if_neg hne,if_neg (by decide),hcnt,Option.bind_some]
  by_cases h0:l.count x=0
  · rw[if_pos (by rw[h0];rfl),Option.bind_some,UU (Mj.1 h0)]
  rw[if_neg (by simpa using h0),if_pos (by decide),if_pos rfl]
  have wg:wr .i64 ((l.length:Int)+(wr .i64 (((l.count x:Nat):Int) * (wr .i64 ((r.length:Int)-(([x]:List UInt8).length:Int))))))=((l.length+l.count x * 2:Nat):Int):=by
    rw[hr,show wr .i64 (((3:Nat):Int)-(([x]:List UInt8).length:Int))=2 from rfl,AR (n:=((l.count x:Nat):Int) * 2) (by omega),AR (by omega)];simp
  rw[wg]
  unfold Fw
  rw[AV (by omega),Option.bind_some,if_pos (by simp),AV (by omega),Int.sub_zero,Int.toNat_natCast]
  obtain⟨last,pre',buf',d',q1,q2,q3,q4⟩:=ADv (N:=N) (l:=l) (r:=r) (x:=x) hb (by omega) (fun j17:Int×Bool×(List UInt8)=>
     Option.bind (sub l j17.1 (l.length:Int)) fun x41=>
     Option.bind (AZ N (StringsBuilder.mk j17.2.1 j17.2.2) x41) fun y42=>
     Option.bind (CX N y42.2.2) fun y44=>
     some (y44.1)) (l.count x) l [] [] true rfl rfl (by simp;omega)
  have hl:=congrArg List.length q1
  simp only[List.length_append]at hl
  rw[show(([]:List UInt8).length:Int)=0 from rfl]at q4
  rw[q4,CK (by omega),Option.bind_some,show l.drop pre'.length=last by rw[q1,List.drop_left],Re _ _ _ (by dsimp only;omega),Option.bind_some]
  unfold CX
  simp only[Option.bind_some]
  rw[q2];rfl
end
end Go.VM
namespace Go.VM
section
variable{N:Nat}
def un:Nat→List UInt8→Option (List (Bool×UInt8))
  |0,_=>none
  |_+1,[]=>some []
  |k+1,c::t=>if c=37 then(match JW t with|some x=>(un k (t.drop 2)).map ((true,x):: ·)|none=>none)else(un k t).map ((false,c):: ·)
theorem ACF: ∀(k k':Nat) (t:List UInt8),t.length<k→t.length<k'→un k t=un k' t
  |0,_,_,h,_=>by omega
  |_,0,_,_,h=>by omega
  |k+1,k'+1,[],_,_=>rfl
  | k+1,k'+1,c::t,h,h'=>by
    simp only[List.length_cons]at h h'
    rw[un,un]
    split
    · cases he:JW t with
      |none=>rfl
      |some x=>simp only;rw[ACF k k' (t.drop 2) (by rw[List.length_drop];omega) (by rw[List.length_drop];omega)]
    · rw[ACF k k' t (by omega) (by omega)]
def unS (t:List UInt8):Option (List (Bool×UInt8)):=un (t.length+1) t
theorem AQn{k:Nat}{t:List UInt8} (h:t.length<k):un k t=unS t:=ACF k _ t h (Nat.lt_succ_self _)
theorem ABl: ∀(k:Nat) (t out:List UInt8),t.length<k→OH k t out=(match un k t with|some us=>(out++us.map (·.2),0)|none=>([],2))
  |0,_,_,h=>by omega
  |k+1,[],out,_=>by simp[OH,un]
  | k+1,c::t,out,h=>by
    simp only[List.length_cons]at h
    rw[OH,un]
    split
    · cases he:JW t with
      |none=>rfl
      | some x=>
        simp only
        rw[ABl k (t.drop 2) (out++[x]) (by rw[List.length_drop];omega)]
        cases un k (t.drop 2)<;>simp
    · rw[ABl k t (out++[c]) (by omega)]
      cases un k t<;>simp
def nuC (u:Bool×UInt8):List UInt8:=if u.1=true then(if Gy u.2=true then [u.2]else MO u.2)else [u.2]
def okN (also:List UInt8) (u:Bool×UInt8):Bool:=u.1||(Gy u.2||also.contains u.2)
theorem Xe (also:List UInt8): ∀(k:Nat) (t out:List UInt8) (us:List (Bool×UInt8)),t.length<k→un k t=some us→OJ also k t out=if us.all (okN also)=true then(out++us.flatMap nuC,0)else([],1)
  |0,_,_,_,h,_=>by omega
  | k+1,[],out,us,_,hu=>by
    rw[un]at hu;cases hu;simp[OJ]
  | k+1,c::t,out,us,h,hu=>by
    simp only[List.length_cons]at h
    rw[un]at hu
    rw[OJ]
    split at hu
    · rename_i hc
      rw[if_pos hc]
      cases he:JW t with
      |none=>rw[he]at hu;cases hu
      | some x=>
        rw[he]at hu
        simp only[Option.map_eq_some_iff]at hu
        obtain⟨vs,hv,rfl⟩:=hu
        simp only
        rw[Xe also k (t.drop 2) _ vs (by rw[List.length_drop];omega) hv,List.all_cons,show okN also (true,x)=true from rfl,Bool.true_and,List.flatMap_cons,←List.append_assoc]
        rfl
    · rename_i hc
      rw[if_neg hc]
      simp only[Option.map_eq_some_iff]at hu
      obtain⟨vs,hv,rfl⟩:=hu
      have ih:=Xe also k t (out++[c]) vs (by omega) hv
      cases hx:(Gy c||also.contains c)
      · rw[if_neg (by decide),List.all_cons,show okN also (false,c)=false from hx,Bool.false_and,if_neg (by decide)]
      · rw[if_pos rfl,ih,List.all_cons,show okN also (false,c)=true from hx,Bool.true_and,List.flatMap_cons,←List.append_assoc];rfl
theorem AXk:Kw 58=false:=by decide
theorem AQ3{p r:List UInt8} (h58: ∀x,x∈p→x≠58):JW (p++58::r)=JW p∧(JW p≠none→2≤p.length):=by
  match p with
  | []=>
    refine⟨?_,fun h=>absurd rfl h⟩
    cases r with
    |nil=>rfl
    |cons y r=>simp[JW,AXk]
  |[a]=>exact⟨by simp[JW,AXk],fun h=>absurd rfl h⟩
  |a::b::q=>exact⟨rfl,fun _=>by simp⟩
theorem TU: ∀(k:Nat) (p r:List UInt8),(p++58::r).length<k→(∀x,x∈p→x≠58)→un k (p++58::r)=(unS p).bind fun u=>(unS r).map fun v=>u++(false,58)::v
  |0,_,_,h,_=>by omega
  | k+1,[],r,h,_=>by
    simp only[List.nil_append,List.length_cons]at h
    rw[List.nil_append,un,if_neg (by decide),AQn (by omega)]
    have:unS []=some []:=rfl
    rw[this];rfl
  | k+1,c::p,r,h,h58=>by
    simp only[List.cons_append,List.length_cons,List.length_append]at h
    have hp58: ∀x,x∈p→x≠58:=fun x hx=>h58 x (by simp[hx])
    rw[List.cons_append,un]
    have hunS:unS (c::p)=if c=37 then(match JW p with|some x=>(un (p.length+1) (p.drop 2)).map ((true,x):: ·)|none=>none)else(un (p.length+1) p).map ((false,c):: ·):=rfl
    rw[hunS]
    obtain⟨e1,e2⟩:=AQ3 (r:=r) hp58
    split
    · rw[e1]
      cases he:JW p with
      |none=>rfl
      | some x=>
        have h2:2≤p.length:=e2 (by rw[he];simp)
        simp only
        rw[List.drop_append_of_le_length h2,TU k (p.drop 2) r (by simp only[List.length_append,List.length_drop,List.length_cons];omega) (fun y hy=>hp58 y (List.mem_of_mem_drop hy)),AQn (t:=p.drop 2) (by rw[List.length_drop];omega)]
        cases unS (p.drop 2)with
        |none=>rfl
        |some u=>cases unS r<;>rfl
    · rw[TU k p r (by simp only[List.length_append,List.length_cons];omega) hp58,AQn (t:=p) (by omega)]
      cases unS p with
      |none=>rfl
      |some u=>cases unS r<;>rfl
theorem ABM (x:UInt8) (hx:Kw x=false) (h37:x≠37): ∀(k:Nat) (t:List UInt8) (us:List (Bool×UInt8)),un k t=some us→t.contains x=us.any fun u=>!u.1&&u.2==x
  |0,_,_,h=>by cases h
  |k+1,[],us,h=>by rw[un]at h;cases h;rfl
  | k+1,c::t,us,h=>by
    rw[un]at h
    split at h
    · rename_i hc
      match t,h with
      |[],h=>cases h
      |[_],h=>cases h
      | a::b::r,h=>
        simp only[JW]at h
        by_cases hh:(Kw a&&Kw b)=true
        · rw[if_pos hh]at h
          simp only[Option.map_eq_some_iff]at h
          obtain⟨vs,hv,rfl⟩:=h
          have ih:=ABM x hx h37 k r vs hv
          rw[Bool.and_eq_true]at hh
          have ha:(x==a)=false:=by simp only[beq_eq_false_iff_ne,ne_eq];rintro rfl;rw[hx]at hh;cases hh.1
          have hb:(x==b)=false:=by simp only[beq_eq_false_iff_ne,ne_eq];rintro rfl;rw[hx]at hh;cases hh.2
          have hcc:(x==c)=false:=by simp only[beq_eq_false_iff_ne,ne_eq];rintro rfl;exact h37 hc
          rw[List.contains_cons,List.contains_cons,List.contains_cons,ha,hb,hcc,ih];simp
        · rw[if_neg hh]at h;cases h
    · simp only[Option.map_eq_some_iff]at h
      obtain⟨vs,hv,rfl⟩:=h
      rw[List.contains_cons,ABM x hx h37 k t vs hv,List.any_cons]
      congr 1
      simp only[Bool.not_false,Bool.true_and]
      exact Bool.beq_comm
theorem AIs (f:UInt8→Bool) (hf: ∀c,Kw c=true→f c=true) (h37:f 37=true): ∀(k:Nat) (t:List UInt8) (us:List (Bool×UInt8)),un k t=some us→t.all f=us.all fun u=>u.1||f u.2
  |0,_,_,h=>by cases h
  |k+1,[],us,h=>by rw[un]at h;cases h;rfl
  | k+1,c::t,us,h=>by
    rw[un]at h
    split at h
    · rename_i hc
      match t,h with
      |[],h=>cases h
      |[_],h=>cases h
      | a::b::r,h=>
        simp only[JW]at h
        by_cases hh:(Kw a&&Kw b)=true
        · rw[if_pos hh]at h
          simp only[Option.map_eq_some_iff]at h
          obtain⟨vs,hv,rfl⟩:=h
          have ih:=AIs f hf h37 k r vs hv
          rw[Bool.and_eq_true]at hh
          rw[List.all_cons,List.all_cons,List.all_cons,hf a hh.1,hf b hh.2,hc,h37,ih];simp
        · rw[if_neg hh]at h;cases h
    · simp only[Option.map_eq_some_iff]at h
      obtain⟨vs,hv,rfl⟩:=h
      rw[List.all_cons,AIs f hf h37 k t vs hv,List.all_cons];simp
end
end Go.VM
namespace Go.VM
section
variable{N:Nat}
def I7 (c:UInt8):Bool:=IU c||(F9 c||([46,45,95]:List UInt8).contains c)
theorem WJ (c:UInt8):JI N (AJ c)=some (I7 c):=by
  unfold JI I7
  rw[OU,Option.bind_some,OY,Option.bind_some,Uw c _ (by decide),Option.bind_some]
  cases IU c<;>cases F9 c<;>rfl
theorem Pp (c:UInt8):(Gy c=(I7 c||c==126))∧(I7 c=true→c≠37∧c≠58∧c≠126)∧(Kw c=true→I7 c=true):=by
  have key:=DV (f:=fun n=>(Gy (UInt8.ofNat n)==(I7 (UInt8.ofNat n)||UInt8.ofNat n==126))&&((!I7 (UInt8.ofNat n))||(decide (UInt8.ofNat n≠37)&&decide (UInt8.ofNat n≠58)&&decide (UInt8.ofNat n≠126)))&&((!Kw (UInt8.ofNat n))||I7 (UInt8.ofNat n))) (g:=fun _=>true) (by kernel_rfl) c
  simp only[UInt8.ofNat_toNat,Bool.and_eq_true,Bool.or_eq_true,Bool.not_eq_true',beq_iff_eq,decide_eq_true_eq]at key
  obtain⟨⟨k1,k2⟩,k3⟩:=key
  refine⟨k1,fun h=>?_,fun h=>?_⟩
  · rcases k2 with k|⟨⟨a,b⟩,d⟩
    · rw[h]at k;cases k
    · exact⟨a,b,d⟩
  · rcases k3 with k|k
    · rw[h]at k;cases k
    · exact k
def Nk (b:UInt8):List UInt8:=if I7 b=true then [b]else MO b
theorem OO (b:UInt8):(Nk b).length≤3∧1≤(Nk b).length:=by unfold Nk;split<;>simp[MO]
def AJT:UInt8→List UInt8:=U2 [37,55,69] 126
theorem AQK (b:UInt8):(MO b).flatMap AJT=MO b:=by
  have key:=DV (f:=fun n=>decide (([37,VW (n / 16),VW (n % 16)]:List UInt8).flatMap AJT=[37,VW (n / 16),VW (n % 16)])) (g:=fun _=>true) (by kernel_rfl) b
  simp only[decide_eq_true_eq]at key
  exact key
theorem AV3 (b:UInt8):(if Gy b=true then [b]else MO b).flatMap AJT=Nk b:=by
  obtain⟨k1,k2,_⟩:=Pp b
  unfold Nk
  rw[k1]
  cases hp:I7 b
  · by_cases h:b=126
    · subst h;rfl
    · rw[show(b==126)=false by simpa using h,Bool.or_false,if_neg (by decide),AQK]
  · obtain⟨_,_,h3⟩:=k2 hp
    rw[Bool.true_or,if_pos rfl]
    simp[AJT,U2,h3]
def guC (u:Bool×UInt8):List UInt8:=if u.1=true then Nk u.2 else [u.2]
def Pm (u:Bool×UInt8):Bool:=u.1||(I7 u.2||u.2==58)
theorem AYM{u:Bool×UInt8} (h:Pm u=true):(nuC u).flatMap AJT=guC u:=by
  obtain⟨e,c⟩:=u
  unfold nuC guC
  cases e
  · simp only[Bool.false_eq_true,if_false]
    have hc:c≠126:=by
      rintro rfl
      simp only[Pm,Bool.false_or]at h
      exact absurd h (by decide)
    simp[AJT,U2,hc]
  · simp only[if_true];exact AV3 c
theorem ALp{us:List (Bool×UInt8)} (h:us.all Pm=true):(us.flatMap nuC).flatMap AJT=us.flatMap guC:=by
  induction us with
  |nil=>rfl
  | cons u us ih=>
    rw[List.all_cons,Bool.and_eq_true]at h
    rw[List.flatMap_cons,List.flatMap_append,AYM h.1,ih h.2,List.flatMap_cons]
def QM (s:List UInt8):List UInt8×Int:=
  match unS s with
  |none=>([],2)
  |some us=>if us.all Pm=true then(us.flatMap guC,0)else([],1)
theorem Aaw (us:List (Bool×UInt8)):(us.all (okN [58])&&!(us.any fun u=>!u.1&&u.2==126))=us.all Pm:=by
  induction us with
  |nil=>rfl
  | cons u us ih=>
    rw[List.all_cons,List.any_cons,List.all_cons,←ih]
    obtain⟨e,c⟩:=u
    obtain⟨k1,k2,_⟩:=Pp c
    have hu:(okN [58] (e,c)&&!(!e&&c==126))=Pm (e,c):=by
      unfold okN Pm
      cases e
      · simp only[Bool.false_or,Bool.not_false,Bool.true_and]
        rw[k1,show([58]:List UInt8).contains c=(c==58) by simp[List.contains_cons];rfl]
        by_cases h126:c=126
        · subst h126;rfl
        · rw[show(c==126)=false by simpa using h126];simp
      · simp
    rw[←hu]
    cases okN [58] (e,c)<;>cases (!e&&c==126)<;>cases us.all (okN [58])<;>cases (us.any fun u=>!u.1&&u.2==126)<;>rfl
theorem AXX (s:List UInt8) (hb:s.length≤16000) (hN:20000≤N): ∃v,Im N s=some (v,(QM s).2)∧((QM s).2=0→v=(QM s).1):=by
  unfold Im
  have hd:Nl N s=OH N s []:=by unfold Nl;rw[if_neg (by omega)]
  have hn:CE N s [58]=OJ [58] N s []:=by unfold CE;rw[if_neg (by omega)]
  have hun:un N s=unS s:=AQn (by omega)
  rw[F8 _ _ hN,Option.bind_some,Tu _ hN,Option.bind_some,hd,hn,ABl N s [] (by omega),hun]
  dsimp only[AB]
  unfold QM
  cases hu:unS s with
  |none=>exact⟨[],rfl,fun _=>rfl⟩
  | some us=>
    simp only
    rw[if_neg (by decide),Xe [58] N s [] us (by omega) (by rw[hun];exact hu),ADu,Option.bind_some]
    have h126:s.contains 126=us.any fun u=>!u.1&&u.2==126:=ABM 126 (by decide) (by decide) _ s us hu
    have hk:=Aaw us
    rw[←h126]at hk
    have hlen:=GK (N:=N) s [58]
    rw[hn,Xe [58] N s [] us (by omega) (by rw[hun];exact hu)]at hlen
    cases h1:us.all (okN [58])
    · rw[h1,Bool.false_and]at hk
      rw[←hk]
      simp only[Bool.false_eq_true,if_false]
      rw[if_neg (by decide),OP _ _ _ rfl (by simp),Option.bind_some]
      exact⟨_,rfl,fun h=>by cases h⟩
    · rw[h1,Bool.true_and]at hk
      rw[h1]at hlen
      simp only[if_true,List.nil_append]at hlen⊢
      rw[if_pos (by decide)]
      cases h2:s.contains 126
      · rw[h2]at hk
        rw[←hk]
        simp only[Bool.not_false,Bool.false_eq_true,if_false,if_true]
        rw[OP _ _ _ rfl (by omega),Option.bind_some]
        exact⟨_,rfl,fun _=>ALp hk.symm⟩
      · rw[h2]at hk
        rw[←hk]
        simp only[Bool.not_true,Bool.false_eq_true,if_false,if_true]
        rw[OP _ _ _ rfl (by omega),Option.bind_some]
        exact⟨_,rfl,fun h=>by cases h⟩
end
end Go.VM
namespace Go.VM
section
variable{N:Nat}
theorem YS{p:UInt8→Bool}{x:UInt8}: ∀ {l:List UInt8},x∈l.takeWhile p→p x=true
  |[],h=>by simp at h
  | c::l,h=>by
    rw[List.takeWhile_cons]at h
    split at h
    · rename_i hc
      rcases List.mem_cons.1 h with rfl|h
      · exact hc
      · exact YS h
    · simp at h
def Zv (c:UInt8):Bool:=I7 c||c==37
theorem AHq: ∀(k:Nat) (t:List UInt8) (us:List (Bool×UInt8)),un k t=some us→ ∀u,u∈us→u.1=true∨u.2≠37
  |0,_,_,h,_,_=>by cases h
  |k+1,[],us,h,u,hu=>by rw[un]at h;cases h;cases hu
  | k+1,c::t,us,h,u,hu=>by
    rw[un]at h
    split at h
    · cases he:JW t with
      |none=>rw[he]at h;cases h
      | some x=>
        rw[he]at h
        simp only[Option.map_eq_some_iff]at h
        obtain⟨vs,hv,rfl⟩:=h
        rcases List.mem_cons.1 hu with rfl|hu
        · exact .inl rfl
        · exact AHq k _ vs hv u hu
    · rename_i hc
      simp only[Option.map_eq_some_iff]at h
      obtain⟨vs,hv,rfl⟩:=h
      rcases List.mem_cons.1 hu with rfl|hu
      · exact .inr hc
      · exact AHq k t vs hv u hu
theorem AYA: ∀ {t:List UInt8}{us:List (Bool×UInt8)},unS t=some us→(us=[]↔t=[])
  | [],us,h=>by
    have:unS []=some []:=rfl
    rw[this]at h;cases h;simp
  | c::t,us,h=>by
    unfold unS at h
    rw[un]at h
    constructor
    · rintro rfl
      split at h
      · cases he:JW t with
        |none=>rw[he]at h;cases h
        |some x=>rw[he]at h;simp at h
      · simp at h
    · intro h;cases h
theorem R4{p:List UInt8} (hb:p.length≤16000) (hN:20000≤N):Nl N p=(match unS p with|some us=>(us.map (·.2),0)|none=>([],2)):=by
  unfold Nl
  rw[if_neg (by omega),ABl N p [] (by omega),AQn (by omega)]
  cases unS p<;>simp
def Ij (N:Nat) (p:List UInt8):List UInt8:=(Nl N p).1.flatMap Nk
def jn (N:Nat):Bool→List (List UInt8)→List UInt8
  |_,[]=>[]
  |true,p::ps=>Ij N p++jn N false ps
  |false,p::ps=>58::(Ij N p++jn N false ps)
def RN (N:Nat) (p:List UInt8):Bool:=(Nl N p).2==0
theorem ADs{p:List UInt8}{u:List (Bool×UInt8)} (hb:p.length≤16000) (hN:20000≤N) (h58:p.contains 58=false) (hu:unS p=some u):
    RN N p=true∧p.all Zv=u.all Pm∧(u.all Pm=true→Ij N p=u.flatMap guC):=by
  have hlit:=AHq _ p u hu
  have h58':=ABM 58 (by decide) (by decide) _ p u hu
  rw[h58]at h58'
  have hno: ∀v,v∈u→v.1=true∨(v.2≠37∧v.2≠58):=fun v hv=>by
    rcases hlit v hv with h|h
    · exact .inl h
    · have:=List.any_eq_false.1 h58'.symm v hv
      cases hv1:v.1
      · refine .inr ⟨h,fun e=>?_⟩
        rw[hv1,e]at this;exact this rfl
      · exact .inl rfl
  refine⟨by unfold RN;rw[R4 hb hN,hu];rfl,?_,fun hok=>?_⟩
  · rw[AIs Zv (fun c hc=>by unfold Zv;rw[(Pp c).2.2 hc];rfl) (by decide) _ p u hu]
    clear hu h58'
    induction u with
    |nil=>rfl
    | cons v u ih=>
      rw[List.all_cons,List.all_cons,ih (fun w hw=>hlit w (by simp[hw])) (fun w hw=>hno w (by simp[hw]))]
      congr 1
      unfold Pm Zv
      rcases hno v (by simp)with h|⟨h1,h2⟩
      · rw[h];rfl
      · rw[show(v.2==37)=false by simpa using h1,show(v.2==58)=false by simpa using h2]
  · unfold Ij
    rw[R4 hb hN,hu]
    clear hu h58' hlit
    induction u with
    |nil=>rfl
    | cons v u ih=>
      rw[List.all_cons,Bool.and_eq_true]at hok
      have ih':=ih (fun w hw=>hno w (by simp[hw])) hok.2
      simp only[List.map_cons,List.flatMap_cons]at ih'⊢
      rw[ih']
      congr 1
      unfold guC
      rcases hno v (by simp)with h|⟨h1,h2⟩
      · rw[h];rfl
      · cases hv1:v.1
        · have hpl:I7 v.2=true:=by
            have:=hok.1
            unfold Pm at this
            rw[hv1,show(v.2==58)=false by simpa using h2,Bool.or_false,Bool.false_or]at this
            exact this
          rw[if_neg (by decide)]
          unfold Nk;rw[if_pos hpl]
        · rfl
theorem AWv (hN:20000≤N): ∀(n:Nat) (l:List UInt8),l.length≤n→l.length≤16000→
    (unS l=none→(Ar 58 l).all (RN N)=false)∧(∀us,unS l=some us→(Ar 58 l).all (RN N)=true∧((Ar 58 l).all fun p=>p.all Zv)=us.all Pm∧(us.all Pm=true→jn N true (Ar 58 l)=us.flatMap guC)):=by
  intro n
  induction n with
  | zero=>
    intro l hl _
    have:l=[]:=List.eq_nil_of_length_eq_zero (by omega)
    subst this
    refine⟨fun h=>(by cases h),fun us h=>?_⟩
    have e:unS []=some []:=rfl
    rw[e]at h;cases h
    refine⟨?_,rfl,fun _=>?_⟩
    · simp only[Ar,List.all_cons,List.all_nil,Bool.and_true]
      unfold RN;rw[R4 (by simp) hN];rfl
    · simp only[Ar,jn,List.append_nil,Ij]
      rw[R4 (by simp) hN];rfl
  | succ n ih=>
    intro l hl hb
    cases hc:l.contains 58
    · have hs:Ar 58 l=[l]:=by rw[KF,MH hc];rfl
      rw[hs]
      refine⟨fun h=>?_,fun us h=>?_⟩
      · simp only[List.all_cons,List.all_nil,Bool.and_true]
        unfold RN;rw[R4 hb hN,h];rfl
      · obtain⟨r1,r2,r3⟩:=ADs hb hN hc h
        refine⟨by simp[r1],by simpa using r2,fun hk=>?_⟩
        simp only[jn,List.append_nil];exact r3 hk
    · have hlt:=JV hc
      have hs:Ar 58 l=(AQ 58 l).1::Ar 58 (AQ 58 l).2.1:=by rw[KF 58 l,if_pos (by rw[AJh,hc])]
      have he:l=(AQ 58 l).1++58::(AQ 58 l).2.1:=by
        rw[Fg hc]
        have e:=List.takeWhile_append_dropWhile (p:=(· !=(58:UInt8))) (l:=l)
        have hd:l.dropWhile (· !=(58:UInt8))=58::(l.dropWhile (· !=(58:UInt8))).drop 1:=by
          cases hq:l.dropWhile (· !=(58:UInt8))with
          |nil=>rw[hq,List.append_nil]at e;rw[e]at hlt;omega
          | cons y ys=>
            have:=List.head?_dropWhile_not (fun z=>z !=(58:UInt8)) l
            rw[hq]at this
            simp at this
            simp[this]
        conv=>lhs;rw[←e,hd]
      have hp:(AQ 58 l).1.contains 58=false:=by
        rw[Fg hc]
        cases h:(l.takeWhile (· !=(58:UInt8))).contains 58
        · rfl
        · have hm:(58:UInt8)∈l.takeWhile (· !=(58:UInt8)):=by simpa using h
          have:=YS hm
          simp at this
      have hp': ∀x,x∈(AQ 58 l).1→x≠58:=fun x hx e=>by
        subst e
        have:(AQ 58 l).1.contains 58=true:=by simpa using hx
        rw[hp]at this;cases this
      generalize (AQ 58 l).1=p at *
      generalize (AQ 58 l).2.1=r at *
      have hlen:=congrArg List.length he
      simp only[List.length_append,List.length_cons]at hlen
      have hun:unS l=(unS p).bind fun u=>(unS r).map fun v=>u++(false,58)::v:=by
        unfold unS
        conv=>lhs;rw[he]
        exact TU _ p r (by simp only[List.length_append,List.length_cons];omega) hp'
      obtain⟨i1,i2⟩:=ih r (by omega) (by omega)
      rw[hs,List.all_cons,List.all_cons]
      refine⟨fun h=>?_,fun us h=>?_⟩
      · rw[hun]at h
        cases hu:unS p with
        | none=>
          have:RN N p=false:=by unfold RN;rw[R4 (by omega) hN,hu];rfl
          rw[this];rfl
        | some u=>
          rw[hu]at h
          simp only[Option.bind_some,Option.map_eq_none_iff]at h
          rw[i1 h,Bool.and_false]
      · rw [hun]at h
        cases hu:unS p with
        |none=>rw[hu]at h;cases h
        | some u=>
          rw[hu]at h
          simp only[Option.bind_some,Option.map_eq_some_iff]at h
          obtain⟨v,hv,rfl⟩:=h
          obtain⟨j1,j2,j3⟩:=i2 v hv
          obtain⟨r1,r2,r3⟩:=ADs (by omega) hN hp hu
          have h58:Pm (false,58)=true:=rfl
          refine⟨by rw[r1,j1];rfl,?_,fun hk=>?_⟩
          · rw[r2,j2,List.all_append,List.all_cons,h58,Bool.true_and]
          · rw[List.all_append,List.all_cons,h58,Bool.true_and,Bool.and_eq_true]at hk
            rw[List.flatMap_append,List.flatMap_cons,←r3 hk.1,←j3 hk.2]
            cases hsr:Ar 58 r with
            |nil=>exact absurd hsr (H5 58 r)
            |cons q qs=>simp only[jn];rfl
end
end Go.VM
namespace Go.VM
section
variable{N:Nat}
def mB (c:UInt8):Bool:=F9 c||(!decide (AJ c<97)&&!decide (AJ c>122))
theorem UQ (k:Unit→Option Bool): ∀l:List UInt8,Ex N k l=if l.all mB=true then k ()else some false
  |[]=>by rw[Ex];rfl
  | c::l=>by
    rw[Ex]
    dsimp only[AB]
    rw[P6,Option.bind_some,UQ k l,List.all_cons]
    unfold mB
    cases F9 c<;>cases decide (AJ c<97)<;>cases decide (AJ c>122)<;>simp
theorem Ta (k:Unit→Option Bool): ∀l:List UInt8,Dz N k l=if l.all mB=true then k ()else some false
  |[]=>by rw[Dz];rfl
  | c::l=>by
    rw[Dz]
    dsimp only[AB]
    rw[OY,Option.bind_some,Ta k l,List.all_cons]
    unfold mB
    cases F9 c<;>cases decide (AJ c<97)<;>cases decide (AJ c>122)<;>simp
def Ux (l:List UInt8):Bool:=l.all mB&&!(l==[])
theorem ARu (l:List UInt8) (hb:l.length≤1000000):LY N l=some (Ux l):=by
  unfold LY Ux
  rw[AB,Be (by omega),UQ]
  cases l.all mB<;>simp
theorem ASp (l:List UInt8) (hb:l.length≤1000000):Jf N l=some (Ux l):=by
  unfold Jf Ux
  rw[AB,Be (by omega),Ta]
  cases l.all mB<;>simp
theorem AUn (l:List UInt8) (c:UInt8) (hb:l.length≤1000000):strings_HasSuffix N l [c]=some (l.getLast?==some c):=by
  unfold strings_HasSuffix Db
  rcases List.eq_nil_or_concat l with rfl|⟨l,x,rfl⟩
  · rfl
  · rw[List.concat_eq_append]at *
    have hb':l.length≤1000000:=by simp at hb;omega
    rw[if_pos (by simp;omega),show wr .i64 (((l++[x]).length:Int)-(([c]:List UInt8).length:Int))=((l.length:Nat):Int) by rw[AR (by simp only[List.length_append,List.length_cons,List.length_nil];omega)];simp,CK (by simp),Option.bind_some,Option.bind_some,List.drop_left]
    simp
def NL:ApiDID:=⟨[],[]⟩
def AIS (l:List UInt8):Bool:=l==[]||l.getLast?==some 58
def MJ (s:List UInt8):ApiDID×Int:=
  if s.length>4096 then(NL,5)
  else if preB [100,105,100,58] s=false then(NL,60)
  else if(AQ 58 (s.drop 4)).2.2=false then(NL,6)
  else if Ux (AQ 58 (s.drop 4)).1=false then(NL,100)
  else if((QM (AQ 58 (s.drop 4)).2.1).2 !=0)=true then(NL,(QM (AQ 58 (s.drop 4)).2.1).2)
  else if AIS (QM (AQ 58 (s.drop 4)).2.1).1=true then(NL,3)
  else(⟨(AQ 58 (s.drop 4)).1,(QM (AQ 58 (s.drop 4)).2.1).1⟩,0)
theorem AU9 (u:Bool×UInt8):(guC u).length≤3:=by
  have:=OO u.2
  unfold guC;split<;>simp<;>omega
theorem AI4: ∀(k:Nat) (t:List UInt8) (us:List (Bool×UInt8)),un k t=some us→us.length≤t.length
  |0,_,_,h=>by cases h
  |k+1,[],us,h=>by rw[un]at h;cases h;simp
  | k+1,c::t,us,h=>by
    rw[un]at h
    split at h
    · cases he:JW t with
      |none=>rw[he]at h;cases h
      | some x=>
        rw[he]at h
        simp only[Option.map_eq_some_iff]at h
        obtain⟨vs,hv,rfl⟩:=h
        have:=AI4 k _ vs hv
        simp only[List.length_drop,List.length_cons]at *;omega
    · simp only[Option.map_eq_some_iff]at h
      obtain⟨vs,hv,rfl⟩:=h
      have:=AI4 k _ vs hv
      simp only[List.length_cons];omega
theorem Ut{α:Type}{f:α→List UInt8}{n:Nat} (h: ∀x,(f x).length≤n): ∀l:List α,(l.flatMap f).length≤n * l.length
  |[]=>by simp
  | x::l=>by
    have:=Ut h l
    have:=h x
    rw[List.flatMap_cons,List.length_append,List.length_cons,Nat.mul_succ];omega
theorem AFc (s:List UInt8):(QM s).1.length≤3 * s.length:=by
  unfold QM
  cases hu:unS s with
  |none=>simp
  | some us=>
    simp only
    split
    · have h1:=Ut AU9 us
      have h2:=AI4 _ s us hu
      simp only;omega
    · simp
theorem AJu (s:List UInt8) (hb:s.length≤1000000) (hN:20000≤N):Ga N s=some (MJ s):=by
  unfold Ga MJ
  by_cases h1:s.length>4096
  · rw[if_pos (by simp;omega),if_pos h1];rfl
  rw[if_neg (by simp;omega),if_neg h1,AJ6,Option.bind_some]
  cases hp:preB [100,105,100,58] s
  · rfl
  have hl:=FP 58 (s.drop 4)
  rw[List.length_drop]at hl
  simp only[if_true,List.length_cons,List.length_nil,Nat.zero_add,Nat.reduceAdd]
  rw[if_neg (by decide: ¬(true=false)),LZ 58 _ (by rw[List.length_drop];omega),Option.bind_some]
  cases hc:(AQ 58 (s.drop 4)).2.2
  · rfl
  simp only[if_true]
  rw[if_neg (by decide: ¬(true=false)),ARu _ (by omega),Option.bind_some]
  cases hm:Ux (AQ 58 (s.drop 4)).1
  · rfl
  simp only[if_true]
  have hcl:=AFc (AQ 58 (s.drop 4)).2.1
  obtain⟨v,e1,e2⟩:=AXX (N:=N) (AQ 58 (s.drop 4)).2.1 (by omega) hN
  rw[if_neg (by decide: ¬(true=false)),e1,Option.bind_some]
  by_cases h5:((QM (AQ 58 (s.drop 4)).2.1).2 !=0)=true
  · rw[if_pos h5,if_pos h5];rfl
  rw[if_neg h5,if_neg h5]
  have hv:=e2 (by simpa using h5)
  subst hv
  dsimp only[AB]
  rw[AUn _ _ (by omega),Option.bind_some]
  unfold AIS
  cases ((QM (AQ 58 (s.drop 4)).2.1).1==[])<;>cases ((QM (AQ 58 (s.drop 4)).2.1).1.getLast?==some 58)<;>rfl
theorem Wp{l:List UInt8} (hb:l.length≤1000000) (k:List UInt8→Option (List UInt8)): ∀(t pre out:List UInt8),l=pre++t→out.length≤3 * pre.length→Cv N l k t (pre.length:Int) out=k (out++t.flatMap Nk)
  |[],pre,out,h,_=>by rw[Cv];simp
  | c::t,pre,out,h,ho=>by
    have hl:=congrArg List.length h
    simp only[List.length_append,List.length_cons]at hl
    have hsub:sub l (pre.length:Int) ((pre.length:Int)+1)=some [c]:=by
      rw[show(pre.length:Int)+1=((pre.length+1:Nat):Int) by omega,DI l _ _ (by omega) (by omega),h,List.drop_left]
      simp
    have hel:=OO c
    have nxt: ∀x:List UInt8,x=Nk c→Cv N l k t ((pre.length:Int)+1) (out++x)=k (out++(c::t).flatMap Nk):=fun x hx=>by
      have:=Wp hb k t (pre++[c]) (out++x) (by rw[h];simp) (by rw[hx];simp only[List.length_append,List.length_cons,List.length_nil];omega)
      rw[List.flatMap_cons,←List.append_assoc,←hx,←this]
      congr 1;simp
    rw[Cv]
    dsimp only[AB]
    rw[WJ,Option.bind_some,hsub,Option.bind_some,SF,Option.bind_some]
    cases hp:I7 c
    · rw[if_neg (by decide),Be (by simp[MO];omega)]
      exact nxt _ (by unfold Nk;rw[hp];rfl)
    · rw[if_pos rfl,Be (by simp;omega)]
      exact nxt _ (by unfold Nk;rw[hp];rfl)
theorem APe (l:List UInt8) (hb:l.length≤1000000):Ik N l=some (l.flatMap Nk):=by
  unfold Ik
  rw[AB,Be (by omega)]
  have:=Wp (N:=N) hb (fun j1=>some j1) l [] [] rfl (by simp)
  simpa using this
theorem rd1 (hN:20000≤N) (k:Unit→Option (ApiDID×Int)): ∀ps:List (List UInt8),DJ N k ps=if ps.all (RN N)=true then k ()else some (NL,2)
  |[]=>by rw[DJ];rfl
  | p::ps=>by
    rw[DJ,Ph _ hN,Option.bind_some,rd1 hN k ps,List.all_cons]
    unfold RN
    cases h:((Nl N p).2==0)
    · rw[if_pos (by simpa[bne]using h)];rfl
    · rw[if_neg (by simpa[bne]using h),Bool.true_and]
theorem rd3 (k:Unit→Option (ApiDID×Int)): ∀l:List UInt8,DK N k l=if l.all Zv=true then k ()else some (NL,1)
  |[]=>by rw[DK];rfl
  | c::l=>by
    rw[DK]
    dsimp only[AB]
    rw[WJ,Option.bind_some,rd3 k l,List.all_cons,bne,Uo]
    unfold Zv
    have e:(c==37)=decide (c=37):=rfl
    rw[e]
    cases I7 c<;>cases decide (c=37)<;>simp[NL]
theorem ATh (p:List UInt8):(Ij N p).length≤3 * p.length:=by
  have h1:=Ut (fun x=>(OO x).1) (Nl N p).1
  have h2:=Ui (N:=N) p
  unfold Ij;omega
theorem rd2 (hN:20000≤N) (k:List UInt8→Option (ApiDID×Int)): ∀(ps:List (List UInt8)) (i:Int) (acc:List UInt8),0≤i→(∀p,p∈ps→p.length≤20000)→acc.length+60001 * ps.length≤1000000000→
    Bz N k ps i acc=if(ps.all fun p=>p.all Zv)=true then k (acc++jn N (decide (i=0)) ps)else some (NL,1)
  |[],i,acc,_,_,_=>by rw[Bz];cases decide (i=0)<;>simp[jn]
  | p::ps,i,acc,hi,hp,ha=>by
    have hpl:=hp p (by simp)
    have hpt:=ATh (N:=N) p
    simp only[List.length_cons,Nat.mul_succ]at ha
    have ih:=fun acc' h'=>rd2 hN k ps (i+1) acc' (by omega) (fun q hq=>hp q (by simp[hq])) h'
    have hd1:decide (i+1=0)=false:=decide_eq_false (by omega)
    rw[hd1]at ih
    rw[Bz]
    dsimp only[AB]
    rw[Be (by omega),rd3,Ph _ hN,Option.bind_some,List.all_cons]
    cases h1:p.all Zv
    · rfl
    rw[if_pos rfl,Bool.true_and]
    have hdl:=Ui (N:=N) p
    rw[APe _ (by omega),Option.bind_some]
    change (if decide (i>0)=true then grd _ (grd (AO ((acc++[58]).length+(Ij N p).length)) (Bz N k ps (i+1) (acc++[58]++Ij N p)))else grd (AO (acc.length+(Ij N p).length)) (Bz N k ps (i+1) (acc++Ij N p)))=_
    by_cases h0:i=0
    · rw[if_neg (by simp;omega),decide_eq_true h0,Be (by omega),ih _ (by simp only[List.length_append];omega)]
      simp only[jn,List.append_assoc]
    · rw[if_pos (by simp;omega),decide_eq_false h0,Be (by simp;omega),Be (by simp;omega),ih _ (by simp only[List.length_append,List.length_cons,List.length_nil];omega)]
      simp only[jn,List.append_assoc,List.cons_append,List.nil_append]
theorem ATJ (b:UInt8):(Nk b).getLast?≠some 58:=by
  have key:=DV (f:=fun n=>decide ((Nk (UInt8.ofNat n)).getLast?≠some 58)) (g:=fun _=>true) (by kernel_rfl) b
  simp only[UInt8.ofNat_toNat,decide_eq_true_eq]at key
  exact key
theorem WM (p:List UInt8):(Ij N p).getLast?≠some 58:=by
  unfold Ij
  generalize (Nl N p).1=d
  rcases List.eq_nil_or_concat d with rfl|⟨d,x,rfl⟩
  · simp
  · rw[List.concat_eq_append]
    have h1:=(OO x).2
    rw[List.flatMap_append,List.flatMap_singleton,List.getLast?_append]
    cases h:(Nk x).getLast? with
    |none=>rw[List.getLast?_eq_none_iff]at h;rw[h]at h1;simp at h1
    |some y=>simp only[Option.some_or];rw[←h];exact ATJ x
theorem ASv: ∀(ps:List (List UInt8)) (f:Bool) (hne:ps≠ []),AIS (jn N f ps)=(Ij N (ps.getLast hne)==[])
  |[],_,h=>absurd rfl h
  | [p],true,_=>by
    have:=WM (N:=N) p
    simp only[jn,List.append_nil,List.getLast_singleton,AIS]
    rw[show((Ij N p).getLast?==some 58)=false by simpa using this,Bool.or_false]
  | [p],false,_=>by
    have:=WM (N:=N) p
    simp only[jn,List.append_nil,List.getLast_singleton,AIS]
    cases hq:Ij N p with
    |nil=>rfl
    | cons y ys=>
      rw[hq]at this
      simp only[List.getLast?_cons_cons]
      rw[show((y::ys).getLast?==some 58)=false by simpa using this];rfl
  | p::q::ps,f,h=>by
    have ih:=ASv (q::ps) false (by simp)
    rw[List.getLast_cons (by simp),←ih]
    obtain⟨z,zs,hz⟩: ∃z zs,jn N false (q::ps)=z::zs:=⟨58,Ij N q++jn N false ps,rfl⟩
    cases f
    · rw[show jn N false (p::q::ps)=58::(Ij N p++jn N false (q::ps))from rfl,hz]
      unfold AIS
      simp[List.getLast?_append,List.getLast?_cons]
    · rw[show jn N true (p::q::ps)=Ij N p++jn N false (q::ps)from rfl,hz]
      unfold AIS
      simp[List.getLast?_append,List.getLast?_cons]
end
end Go.VM
namespace Go.VM
section
variable{N:Nat}
theorem ANo{l:List (List UInt8)} (hne:l≠ []) (hb:l.length≤1000000):idx l (wr .i64 ((l.length:Int)-1))=some (l.getLast hne):=by
  have:0<l.length:=List.length_pos_iff.2 hne
  rw[show wr .i64 ((l.length:Int)-1)=((l.length-1:Nat):Int) by rw[AR (by omega)];omega,IC,←List.getLast?_eq_getElem?,List.getLast?_eq_some_getLast hne]
theorem ASH{p:List UInt8} (hb:p.length≤16000) (hN:20000≤N) (hk:RN N p=true):(Ij N p==[])=(p==[]):=by
  unfold RN at hk
  rw[R4 hb hN]at hk
  cases hu:unS p with
  |none=>rw[hu]at hk;exact absurd hk (by decide)
  | some u=>
    have hn:=AYA hu
    unfold Ij
    rw[R4 hb hN,hu]
    cases u with
    |nil=>have:=hn.1 rfl;subst this;rfl
    | cons v u=>
      have hp:p≠ []:=fun e=>by have:=hn.2 e;cases this
      have h1:=(OO v.2).2
      cases hq:Nk v.2 with
      |nil=>rw[hq]at h1;simp at h1
      | cons y ys=>
        simp only[List.map_cons,List.flatMap_cons,hq]
        cases p with
        |nil=>exact absurd rfl hp
        |cons _ _=>rfl
theorem AJy (s:List UInt8) (hb:s.length≤1000000) (hN:20000≤N):FZ N s=some (MJ s):=by
  unfold FZ MJ
  by_cases h1:s.length>4096
  · rw[if_pos (by simp;omega),if_pos h1];rfl
  rw[if_neg (by simp;omega),if_neg h1,NC,Option.bind_some]
  cases hp:preB [100,105,100,58] s
  · rfl
  have h4:=Ky hp
  simp only[List.length_cons,List.length_nil]at h4
  have hl:=FP 58 (s.drop 4)
  have hdl:(s.drop 4).length≤1000000:=by rw[List.length_drop];omega
  rw[List.length_drop]at hl
  simp only[if_true]
  rw[if_neg (by decide: ¬(true=false)),show sub s 4 (s.length:Int)=some (s.drop 4)from CK (n:=4) (by omega),Option.bind_some,Aav 58 _ hdl,Option.bind_some,ASy,AJh]
  cases hc:(s.drop 4).contains 58
  · rfl
  obtain⟨s1,s2⟩:=Tw hc hdl
  simp only[Bool.not_true,Bool.false_eq_true,if_false]
  rw[if_neg (by decide: ¬(true=false)),s1,Option.bind_some,ASp _ (by omega),Option.bind_some]
  cases hm:Ux (AQ 58 (s.drop 4)).1
  · rfl
  simp only[if_true]
  rw[if_neg (by decide: ¬(true=false)),s2,Option.bind_some,show(58:Int)=AJ 58 from rfl,Oo _ 58 (by omega),Option.bind_some]
  generalize (AQ 58 (s.drop 4)).1=m at *
  have hd:(AQ 58 (s.drop 4)).2.1.length≤4096:=by omega
  generalize (AQ 58 (s.drop 4)).2.1=d at *
  have hsl:=I6 58 d
  have hsp:=F4 58 d
  have hne:=H5 58 d
  obtain⟨r1,r2⟩:=AWv (N:=N) hN d.length d (Nat.le_refl _) (by omega)
  dsimp only[AB]
  rw[Be (by omega),rd1 hN]
  unfold QM
  cases hu:unS d with
  | none=>
    rw[r1 hu];rfl
  | some us=>
    obtain⟨q1,q2,q3⟩:=r2 us hu
    simp only
    rw[q1,if_pos rfl,Be (by omega),rd2 hN _ _ 0 [] (by omega) (fun p h=>by have:=hsp p h;omega) (by simp;omega),q2]
    cases hk:us.all Pm
    · rfl
    simp only[if_true]
    rw[if_neg (by decide),List.nil_append]
    simp only[decide_true]
    rw[q3 hk,ANo hne (by omega),Option.bind_some]
    have hlast:RN N ((Ar 58 d).getLast hne)=true:=List.all_eq_true.1 q1 _ (List.getLast_mem hne)
    have hll:((Ar 58 d).getLast hne).length≤16000:=by have:=hsp _ (List.getLast_mem hne);omega
    have he:=ASv (N:=N) (Ar 58 d) true hne
    rw[q3 hk,ASH hll hN hlast]at he
    rw[he]
    cases ((Ar 58 d).getLast hne==[])<;>rfl
def I4 (d:ApiDID):List UInt8:=(([100,105,100,58]++d.method)++[58])++d.iD
theorem Q8 (d:ApiDID) (h:d.method.length≤1000000∧d.iD.length≤1000000):Ez N d=some (I4 d):=by
  unfold Ez I4
  rw[Be (by simp;omega),Be (by simp;omega),Be (by simp;omega)]
theorem Ql (d:ApiDID) (h:d.method.length≤1000000∧d.iD.length≤1000000):D8 N d=some (I4 d):=by
  unfold D8 I4
  rw[Be (by simp;omega),Be (by simp;omega),Be (by simp;omega)]
theorem TY (s:List UInt8):(MJ s).1.method.length≤4096∧(MJ s).1.iD.length≤12288:=by
  have hl:=FP 58 (s.drop 4)
  have hc:=AFc (AQ 58 (s.drop 4)).2.1
  rw[List.length_drop]at hl
  unfold MJ
  split
  · simp[NL]
  split
  · simp[NL]
  split
  · simp[NL]
  split
  · simp[NL]
  split
  · simp[NL]
  split
  · simp[NL]
  · dsimp only;omega
end
end Go.VM
namespace Go.VM
section
variable{N:Nat}
def n3B (c:UInt8):Bool:=!([47,63,35]:List UInt8).contains c
theorem ARS{c:UInt8} (h:n3B c=true):c≠47∧c≠63∧c≠35:=by
  unfold n3B at h
  simpa[and_assoc]using h
theorem AEU (c:UInt8) (t:List UInt8):AQ c (c::t)=([],t,true):=by
  unfold AQ;simp
theorem Ug{c x:UInt8} (h:x≠c) (t:List UInt8):AQ c (x::t)=(x::(AQ c t).1,(AQ c t).2):=by
  have:=QN (c:=c) [x] t (by simpa using h)
  simpa using this
theorem AZu (s:List UInt8):
    AQ 35 s=(s.takeWhile n3B++(AQ 35 (s.dropWhile n3B)).1,(AQ 35 (s.dropWhile n3B)).2)∧
    AQ 63 (AQ 35 s).1=(s.takeWhile n3B++(AQ 63 (AQ 35 (s.dropWhile n3B)).1).1,(AQ 63 (AQ 35 (s.dropWhile n3B)).1).2):=by
  have hA: ∀x,x∈s.takeWhile n3B→n3B x=true:=fun x hx=>YS hx
  have e1:AQ 35 s=(s.takeWhile n3B++(AQ 35 (s.dropWhile n3B)).1,(AQ 35 (s.dropWhile n3B)).2):=by
    conv=>lhs;rw[←List.takeWhile_append_dropWhile (p:=n3B) (l:=s)]
    exact QN _ _ fun x hx=>(ARS (hA x hx)).2.2
  refine⟨e1,?_⟩
  rw[e1]
  exact QN _ _ fun x hx=>(ARS (hA x hx)).2.1
theorem Wl{p:UInt8→Bool}: ∀l:List UInt8,l.dropWhile p=[]∨ ∃c t,l.dropWhile p=c::t∧p c=false
  |[]=>.inl rfl
  | c::l=>by
    rw[List.dropWhile_cons]
    cases h:p c
    · exact .inr ⟨c,l,rfl,h⟩
    · exact Wl l
theorem ANA (s:List UInt8):(AQ 63 (AQ 35 (s.dropWhile n3B)).1).1=[]∨ ∃t,(AQ 63 (AQ 35 (s.dropWhile n3B)).1).1=47::t:=by
  rcases Wl (p:=n3B) s with h|⟨c,t,h,hc⟩
  · rw[h];exact .inl rfl
  · rw[h]
    have:c=47∨c=63∨c=35:=by
      unfold n3B at hc
      simp only[Bool.not_eq_false',List.contains_cons,List.contains_nil,Bool.or_false,Bool.or_eq_true,beq_iff_eq]at hc
      exact hc
    rcases this with rfl|rfl|rfl
    · rw[Ug (by decide),Ug (by decide)];exact .inr ⟨_,rfl⟩
    · rw[Ug (by decide),AEU];exact .inl rfl
    · rw[AEU];exact .inl rfl
theorem AQV (s:List UInt8):
    (AQ 63 (AQ 35 s).1).1.takeWhile (· !=(47:UInt8))=s.takeWhile n3B∧(AQ 63 (AQ 35 s).1).1.dropWhile (· !=(47:UInt8))=(AQ 63 (AQ 35 (s.dropWhile n3B)).1).1:=by
  rw[(AZu s).2]
  have hA: ∀x,x∈s.takeWhile n3B→(x !=(47:UInt8))=true:=fun x hx=>by simpa using(ARS (YS hx)).1
  dsimp only
  generalize s.takeWhile n3B=A at *
  rcases ANA s with h|⟨t,h⟩
  · rw [h,List.append_nil]
    have: ∀l:List UInt8,(∀x,x∈l→(x !=(47:UInt8))=true)→l.takeWhile (· !=(47:UInt8))=l∧l.dropWhile (· !=(47:UInt8))=[]:=by
      intro l
      induction l with
      |nil=>exact fun _=>⟨rfl,rfl⟩
      | cons c l ih=>
        intro hl
        obtain⟨i1,i2⟩:=ih fun x hx=>hl x (by simp[hx])
        rw[List.takeWhile_cons,List.dropWhile_cons,hl c (by simp)]
        exact⟨by rw[if_pos rfl,i1],i2⟩
    exact this A hA
  · rw[h]
    refine⟨Yp A hA (by decide),?_⟩
    have e:=List.takeWhile_append_dropWhile (p:=(· !=(47:UInt8))) (l:=A++47::t)
    rw[Yp A hA (by decide)]at e
    exact List.append_cancel_left e
def QO:ApiDIDURL:=⟨NL,[],[],[],false,false⟩
def duS (N:Nat) (d p q f:List UInt8) (hq hf:Bool):ApiDIDURL×Int:=
  if((MJ d).2 !=0)=true then(QO,(MJ d).2)
  else if((CE N p inP).2 !=0)=true then(QO,(CE N p inP).2)
  else if((CE N q inQ).2 !=0)=true then(QO,(CE N q inQ).2)
  else if((CE N f inQ).2 !=0)=true then(QO,(CE N f inQ).2)
  else(⟨(MJ d).1,(CE N p inP).1,(CE N q inQ).1,(CE N f inQ).1,hq,hf⟩,0)
def SN (N:Nat) (s:List UInt8):ApiDIDURL×Int:=
  if s.length>4096 then(QO,5)
  else duS N (s.takeWhile n3B) (AQ 63 (AQ 35 (s.dropWhile n3B)).1).1 (AQ 63 (AQ 35 (s.dropWhile n3B)).1).2.1 (AQ 35 (s.dropWhile n3B)).2.1 (AQ 63 (AQ 35 (s.dropWhile n3B)).1).2.2 (AQ 35 (s.dropWhile n3B)).2.2
theorem AaQ (l:List UInt8):(l.takeWhile fun c=>!([47,63,35]:List UInt8).contains c)=l.takeWhile n3B:=rfl
theorem AKF{p:UInt8→Bool} (l:List UInt8):(l.takeWhile p).length+(l.dropWhile p).length=l.length:=by
  have:=congrArg List.length (List.takeWhile_append_dropWhile (p:=p) (l:=l))
  rwa[List.length_append]at this
theorem AYn{p:UInt8→Bool} (s:List UInt8):sub s 0 (((s.takeWhile p).length:Nat):Int)=some (s.takeWhile p):=by
  have:=AKF (p:=p) s
  rw[show(0:Int)=((0:Nat):Int)from rfl,DI _ 0 _ (Nat.zero_le _) (by omega),List.drop_zero,Nat.sub_zero,F6]
theorem AC2 (s:List UInt8) (hb:s.length≤1000000) (hN:20000≤N):K8 N s=some (SN N s):=by
  have hc1:=FP 35 s
  have hc2:=FP 63 (AQ 35 s).1
  unfold K8 SN
  by_cases h:s.length>4096
  · rw[if_pos (by simp;omega),if_pos h];rfl
  rw[if_neg (by simp;omega),if_neg h,LZ 35 _ (by omega),Option.bind_some,LZ 63 _ (by omega),Option.bind_some]
  obtain⟨s1,s2⟩:=AQV s
  have t:=AKF (p:=n3B) s
  have e35:=congrArg Prod.snd (AZu s).1
  have e63:=congrArg Prod.snd (AZu s).2
  dsimp only at e35 e63
  have c3:=FP 35 (s.dropWhile n3B)
  have c4:=FP 63 (AQ 35 (s.dropWhile n3B)).1
  refine(Bo (a:=(s.takeWhile n3B,(AQ 63 (AQ 35 (s.dropWhile n3B)).1).1)) fun k=>?_).trans ?_
  · rw[show(47:Int)=AJ 47 from rfl,JE,Option.bind_some,Ic]
    generalize hd:(AQ 63 (AQ 35 s).1).1=d at *
    rw[←s1,←s2]
    cases hc:d.contains 47
    · have e:=List.takeWhile_append_dropWhile (p:=(· !=(47:UInt8))) (l:=d)
      rw[LK d hc]at e⊢
      have:d.dropWhile (· !=(47:UInt8))=[]:=by simpa using e
      rw[this];rfl
    · have hlt:=JV hc
      simp only[if_true]
      rw[if_pos (by simp),show(0:Int)=((0:Nat):Int)from rfl,DI d 0 _ (Nat.zero_le _) (by omega),Option.bind_some,CK (by omega),Option.bind_some,List.drop_zero,Nat.sub_zero,F6,Gg]
  · dsimp only
    unfold duS
    rw[e35,e63,AJu _ (by omega) hN,Option.bind_some]
    by_cases h1:((MJ (s.takeWhile n3B)).2 !=0)=true
    · rw[if_pos h1,if_pos h1];rfl
    rw[if_neg h1,if_neg h1,F8 _ _ hN,Option.bind_some]
    change (if((CE N _ inP).2 !=0)=true then _ else _)=_
    by_cases h2:((CE N (AQ 63 (AQ 35 (s.dropWhile n3B)).1).1 inP).2 !=0)=true
    · rw[if_pos h2,if_pos h2];rfl
    rw[if_neg h2,if_neg h2,F8 _ _ hN,Option.bind_some]
    change (if((CE N _ inQ).2 !=0)=true then _ else _)=_
    by_cases h3:((CE N (AQ 63 (AQ 35 (s.dropWhile n3B)).1).2.1 inQ).2 !=0)=true
    · rw[if_pos h3,if_pos h3];rfl
    rw[if_neg h3,if_neg h3,F8 _ _ hN,Option.bind_some]
    change (if((CE N _ inQ).2 !=0)=true then _ else _)=_
    by_cases h4:((CE N (AQ 35 (s.dropWhile n3B)).2.1 inQ).2 !=0)=true
    · rw[if_pos h4,if_pos h4];rfl
    rw[if_neg h4,if_neg h4]
    rfl
theorem AFM (s:List UInt8) (hb:s.length≤1000000) (hN:20000≤N):I9 N s=some (SN N s):=by
  unfold I9 SN
  by_cases h:s.length>4096
  · rw[if_pos (by simp;omega),if_pos h];rfl
  have t:=AKF (p:=n3B) s
  rw[if_neg (by simp;omega),if_neg h,JB _ _ (by decide) (by omega),Option.bind_some,AaQ,AYn s,Option.bind_some,AJy _ (by omega) hN,Option.bind_some,CK (by omega),Gg]
  have c3:=FP 35 (s.dropWhile n3B)
  have c4:=FP 63 (AQ 35 (s.dropWhile n3B)).1
  unfold duS
  generalize s.dropWhile n3B=x at *
  by_cases h1:((MJ (s.takeWhile n3B)).2 !=0)=true
  · rw[if_pos h1,if_pos h1];rfl
  rw[if_neg h1,if_neg h1,Option.bind_some]
  refine(Bo (a:=AQ 35 x) fun k=>AVR 35 _ (by omega) k).trans ?_
  refine(Bo (a:=AQ 63 (AQ 35 x).1) fun k=>AVR 63 _ (by omega) k).trans ?_
  rw[Gx _ _ hN (by decide),Option.bind_some]
  change (if((CE N _ inP).2 !=0)=true then _ else _)=_
  by_cases h2:((CE N (AQ 63 (AQ 35 x).1).1 inP).2 !=0)=true
  · rw[if_pos h2,if_pos h2];rfl
  rw[if_neg h2,if_neg h2,Gx _ _ hN (by decide),Option.bind_some]
  change (if((CE N _ inQ).2 !=0)=true then _ else _)=_
  by_cases h3:((CE N (AQ 63 (AQ 35 x).1).2.1 inQ).2 !=0)=true
  · rw[if_pos h3,if_pos h3];rfl
  rw[if_neg h3,if_neg h3,Gx _ _ hN (by decide),Option.bind_some]
  change (if((CE N _ inQ).2 !=0)=true then _ else _)=_
  by_cases h4:((CE N (AQ 35 x).2.1 inQ).2 !=0)=true
  · rw[if_pos h4,if_pos h4];rfl
  rw[if_neg h4,if_neg h4]
  rfl
def AEq (u:ApiDIDURL):List UInt8:=
  (((I4 u.dID++u.path)++(if u.hasQuery=true then [63]++u.query else []))++(if u.hasFrag=true then [35]++u.fragment else []))
def duB (u:ApiDIDURL) (n:Nat):Prop:=u.dID.method.length≤n∧u.dID.iD.length≤n∧u.path.length≤n∧u.query.length≤n∧u.fragment.length≤n
theorem AWz (u:ApiDIDURL) (h:duB u 100000):K9 N u=some (AEq u):=by
  obtain⟨h1,h2,h3,h4,h5⟩:=h
  unfold K9 AEq
  rw[Q8 _ ⟨by omega,by omega⟩,Option.bind_some]
  have l0:(I4 u.dID).length≤300000:=by unfold I4;simp only[List.length_append,List.length_cons,List.length_nil];omega
  generalize I4 u.dID=A at *
  rw[Be (by omega)]
  generalize hC:(if u.hasQuery=true then [63]++u.query else [])=C
  have lC:C.length≤1000001:=by rw[←hC];split<;>simp;omega
  refine(Bo (a:=(A++u.path)++C) fun k=>?_).trans ?_
  · rw[←hC]
    split
    · rw[Be (by simp;omega),Be (by simp only[List.length_append,List.length_cons,List.length_nil];omega)]
    · rw[List.append_nil]
  refine(Bo (a:=((A++u.path)++C)++(if u.hasFrag=true then [35]++u.fragment else [])) fun k=>?_).trans rfl
  split
  · rw[Be (by simp;omega),Be (by simp only[List.length_append,List.length_cons,List.length_nil];omega)]
  · rw[List.append_nil]
theorem AW9 (u:ApiDIDURL) (h:duB u 100000):Jr N u=some (AEq u):=by
  obtain⟨h1,h2,h3,h4,h5⟩:=h
  unfold Jr AEq
  rw[Ql _ ⟨by omega,by omega⟩,Option.bind_some]
  have l0:(I4 u.dID).length≤300000:=by unfold I4;simp only[List.length_append,List.length_cons,List.length_nil];omega
  generalize I4 u.dID=A at *
  rw[Be (by omega)]
  generalize hC:(if u.hasQuery=true then [63]++u.query else [])=C
  have lC:C.length≤1000001:=by rw[←hC];split<;>simp;omega
  refine(Bo (a:=(A++u.path)++C) fun k=>?_).trans ?_
  · rw[←hC]
    split
    · rw[Be (by simp;omega),Be (by simp only[List.length_append,List.length_cons,List.length_nil];omega)]
    · rw[List.append_nil]
  refine(Bo (a:=((A++u.path)++C)++(if u.hasFrag=true then [35]++u.fragment else [])) fun k=>?_).trans rfl
  split
  · rw[Be (by simp;omega),Be (by simp only[List.length_append,List.length_cons,List.length_nil];omega)]
  · rw[List.append_nil]
def AXE:List UInt8→Bool
  |[]=>true
  |c::_=>([47,63,35]:List UInt8).contains c
def SS (N:Nat) (d:ApiDID) (r:List UInt8):ApiDIDURL×Int:=
  if preB [100,105,100,58] r=true then SN N r
  else if AXE r=true then SN N (I4 d++r)
  else(QO,6)
theorem APo (d:ApiDID) (r:List UInt8) (hd:d.method.length≤100000∧d.iD.length≤100000) (hr:r.length≤100000) (hN:20000≤N):Kb N d r=some (SS N d r):=by
  unfold Kb SS
  rw[Od,Option.bind_some]
  by_cases h:preB [100,105,100,58] r=true
  · rw[if_pos h,if_pos h,AC2 _ (by omega) hN];rfl
  rw[if_neg h,if_neg h]
  have l0:(I4 d).length≤300000:=by unfold I4;simp only[List.length_append,List.length_cons,List.length_nil];omega
  refine(Bo (a:=AXE r) fun k=>?_).trans ?_
  · cases r with
    |nil=>rfl
    | cons c t=>
      rw[if_neg (by simp),show idx (c::t) 0=some c from rfl,Option.bind_some,JE,Option.bind_some,Hw];rfl
  · split
    · rw[Q8 _ ⟨by omega,by omega⟩,Option.bind_some,Be (by omega),AC2 _ (by rw[List.length_append];omega) hN];rfl
    · rfl
theorem ARg (d:ApiDID) (r:List UInt8) (hd:d.method.length≤100000∧d.iD.length≤100000) (hr:r.length≤100000) (hN:20000≤N):Il N d r=some (SS N d r):=by
  unfold Il SS
  rw[NC,Option.bind_some]
  by_cases h:preB [100,105,100,58] r=true
  · rw[if_pos h,if_pos h,AFM _ (by omega) hN];rfl
  rw[if_neg h,if_neg h]
  have l0:(I4 d).length≤300000:=by unfold I4;simp only[List.length_append,List.length_cons,List.length_nil];omega
  refine(Bo (a:=!AXE r) fun k=>?_).trans ?_
  · cases r with
    |nil=>rfl
    | cons c t=>
      rw[if_neg (by simp),show idx (c::t) 0=some c from rfl,Option.bind_some,Uw _ _ (by decide),Option.bind_some];rfl
  · cases AXE r
    · rfl
    · rw[if_neg (by decide),if_pos rfl,Ql _ ⟨by omega,by omega⟩,Option.bind_some,Be (by omega),AFM _ (by rw[List.length_append];omega) hN];rfl
theorem AKP (s:List UInt8):duB (SN N s).1 12288:=by
  have z:duB QO 12288:=by unfold duB QO NL;simp
  unfold SN
  split
  · exact z
  have t:=AKF (p:=n3B) s
  have c3:=FP 35 (s.dropWhile n3B)
  have c4:=FP 63 (AQ 35 (s.dropWhile n3B)).1
  have l1:=TY (s.takeWhile n3B)
  have n1:=GK (N:=N) (AQ 63 (AQ 35 (s.dropWhile n3B)).1).1 inP
  have n2:=GK (N:=N) (AQ 63 (AQ 35 (s.dropWhile n3B)).1).2.1 inQ
  have n3:=GK (N:=N) (AQ 35 (s.dropWhile n3B)).2.1 inQ
  unfold duS
  split
  · exact z
  split
  · exact z
  split
  · exact z
  split
  · exact z
  unfold duB
  dsimp only
  omega
theorem Wi (d:ApiDID) (r:List UInt8):duB (SS N d r).1 12288:=by
  unfold SS
  split
  · exact AKP _
  split
  · exact AKP _
  · unfold duB QO NL;simp
end
end Go.VM
