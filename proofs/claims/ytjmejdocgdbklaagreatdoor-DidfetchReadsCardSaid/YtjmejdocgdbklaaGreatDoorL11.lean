import Derived.Test.YtjmejdocgdbklaaGreatDoorL10
set_option linter.defProp false
set_option linter.unusedVariables false
set_option linter.unusedSimpArgs false
namespace Go.VM
section
variable{N:Nat}
def Ru:B8:=[104,116,116,112,115]
def AMS:L6 Ru:=by unfold L6;decide
def ACy (u:ApiURL):B8:=[47,47]++(hpF u.host u.port++(UC u++if u.hasFrag=true then [35]++u.fragment else []))
def AJh (u:ApiURL):O8 u=Ru++58::ACy u:=by unfold O8 ACy Ru;split<;>simp
def eqU (u v:ApiURL):Bool:=u.host==v.host&&(u.port==v.port&&(u.path==v.path&&(u.query==v.query&&(u.fragment==v.fragment&&(u.hasQuery==v.hasQuery&&u.hasFrag==v.hasFrag)))))
def AmM{u v:ApiURL} (h:eqU u v=true):u=v:=by unfold eqU at h;simp only[az,bA]at h;cases u;simp_all
def Rx (N:Nat) (u:ApiURL):Bool:=if((VC N Ru (ACy u)).2==0)=true then eqU u (VC N Ru (ACy u)).1 else false
def ADF (u:ApiURL) (h:ACs u) (hb:(O8 u).length<=1000000) (hN:20000<=N):Np N u=some (Rx N u):=by rw[AJh]at hb;unfold Np Rx;rw[Wy u h fy,aa,AJh,AU4 AMS hb hN,aa];split<;>rfl
def ADf (u:ApiURL) (h:ACs u) (hb:(O8 u).length<=1000000) (hN:20000<=N):Oe N u=some (Rx N u):=by rw[AJh]at hb;unfold Oe Rx;rw[XJ u h fy,aa,AJh,AVX AMS hb hN,aa];split<;>rfl
def Qo (c:UInt8):Bool:=c==37||FC c
def U7 (N:Nat) (x:B8):Bool:=!(x.all Qo)||(Ac N x).1==[]
def Mw (N:Nat) (x:B8):B8:=58::(Ac N x).1.flatMap Ip
def Yj (k:Int->Option (B8×DidwebMapper)): ∀(l:B8) (e:Int),Ct N k l e=k (if l.all Qo=true then e else 110)
 |[],e=>by rw[Ct];rfl
 | c::l,e=>by
  rw[Ct];dsimp only[AA];rw[XR,aa,Yj k l,Yj k l,aI];have h37:(AC c !=37)=!(c==37):=by unfold bne;rw[Q8];rfl
  rw[h37];unfold Qo;cases (c==37)<;>cases FC c<;>cases l.all (λc=>c==37||FC c)<;>rfl
def AWx (l:B8):(l.flatMap (Lr [])).flatMap (Zv [37,55,69] 126)=l.flatMap Ip:=by rw[List.flatMap_assoc];congr 1;funext b;exact AdQ b
def Akx (e:Int) (x:B8) (hb:x.length<=100000) (hN:20000<=N):Iu N ⟨e⟩ x=some (Mw N x,⟨if U7 N x=true then 110 else e⟩):=by
 have hd:=J6 (N:=N) x;have he:=QZ [] (Ac N x).1;have hf:=Re (f:=Ip) (n:=3) (λb=>(NT b).1) (Ac N x).1;have hg: ∀v:Option (B8×DidwebMapper),grd (AL (([58]:B8).length+((Ac N x).1.flatMap Ip).length)) v=v:=λv=>BS (by simp only[ag,ap];omega);unfold Iu U7 Mw;dsimp only[AA];rw[BS fy,Yj,P6 _ hN,aa,Vs _ _ fy];simp only[aa];rw[Qk _ _ _ rfl fy,AWx];simp only[aa,hg];by_cases h:((Ac N x).2 !=0)=true;·rw[ah h,APs hN h];cases x.all Qo<;>rfl
 ·rw[ae h];cases ((Ac N x).1==[])<;>cases x.all Qo<;>rfl
def YZ (x:B8):(Mw N x).length<=3 * x.length+1:=by have hd:=J6 (N:=N) x;have hf:=Re (f:=Ip) (n:=3) (λb=>(NT b).1) (Ac N x).1;grind[Mw]
def Ya: ∀xs:List B8,(xs.flatMap (Mw N)).length<=3 * wS xs |[]=>by simp| x::xs=>by have:=YZ (N:=N) x;have:=Ya xs;rw[aN,an,QW];omega
def TP (hN:20000<=N) (k:Bool×B8×DidwebMapper->Option (B8×DidwebMapper)): ∀(xs:List B8) (d:Bool) (b:B8) (e:Int),b.length+3 * wS xs<=300000->Am N k xs d b ⟨e⟩=k (d||!xs.isEmpty,b++xs.flatMap (Mw N),⟨if xs.any (U7 N)=true then 110 else e⟩) | [],d,b,e,_=>by rw[Am];simp| x::xs,d,b,e,h=>by have hu:=YZ (N:=N) x;rw[QW]at h;rw[Am,Akx _ _ fy hN,aa];dsimp only;rw[Sw _ _ _ fy,aa];dsimp only;rw[TP hN k xs _ _ _ (by rw[an];omega),aN,bT,aP];cases U7 N x<;>cases xs.any (U7 N)<;>simp
def AGu (xs:List B8) (e:Int) (h:wS xs<=100000) (hN:20000<=N):CV N xs ⟨e⟩=some (xs.flatMap (Mw N),⟨if xs.any (U7 N)=true then 110 else e⟩):=by
 unfold CV;dsimp only[AA];have:xs.length<=wS xs:=by unfold wS;omega
 rw[BS fy,TP hN _ _ _ _ _ fC];rfl
def ACW:B8:=[100,105,100,46,106,115,111,110]
def idA (h:B8) (p:Int):B8:=if p=0 then h else h++([37,51,65]++fmtS p.toNat)
def AVg (h:B8) (p:Int):(idA h p).length<=h.length+23:=by grind[O3,idA,List.length_append,List.length_cons,List.length_nil]
def Sv (N:Nat) (h:B8) (p:Int) (path:B8) (L:List B8):ApiDID×Int:=if(L.getLast?==some ACW)=false then(NS,6) else if L.length=1 then(NS,110) else if path=PE then(if(Gy ⟨Ky,idA h p⟩).length>4096 then(NS,5)else(⟨Ky,idA h p⟩,0)) else if L.dropLast.any (U7 N)=true then(NS,110) else if(Gy ⟨Ky,idA h p++L.dropLast.flatMap (Mw N)⟩).length>4096 then(NS,5) else(⟨Ky,idA h p++L.dropLast.flatMap (Mw N)⟩,0)
def Xh (N:Nat) (u:ApiURL):ApiDID×Int:=if Rx N u=true then Sv N u.host u.port u.path ((AX 47 u.path).drop 1)else(NS,8)
def AqX{β:Type} (h:B8) (p:Int) (hp:Kv p) (hb:h.length<=1000000) (hN:20<=N) (k:B8->Option β):(if(p !=0)=true then (F7 N (wr .u64 p)).bind λy15=>grd (AL (([37,51,65]:B8).length+y15.length)) (grd (AL (h.length+(([37,51,65]:B8)++y15).length)) (k (h++(([37,51,65]:B8)++y15))))else k h)=k (idA h p):=by
 have hl:=O3 p.toNat;obtain⟨h1,h2⟩:=hp;unfold idA;by_cases h0:p=0;·grind
 ·rw[ah (by grind),ae h0];have e:wr .u64 p=((p.toNat:Nat):Int):=by rw[IV fy];omega
  simp only[e];rw[Rw p.toNat fy hN,aa,BS (by simp only[an,ag,ap];omega),BS (by simp only[an,ag,ap];omega)]
def Aqi{β:Type} (h:B8) (p:Int) (hp:Kv p) (hb:h.length<=1000000) (hN:20<=N) (k:B8->Option β):(if(p !=0)=true then (Jn N p).bind λy15=>grd (AL (([37,51,65]:B8).length+y15.length)) (grd (AL (h.length+(([37,51,65]:B8)++y15).length)) (k (h++(([37,51,65]:B8)++y15))))else k h)=k (idA h p):=by
 have hl:=O3 p.toNat;obtain⟨h1,h2⟩:=hp;unfold idA Jn;by_cases h0:p=0;·grind
 ·rw[ah (by grind),ae h0,ae (by grind)];have e:wr .u64 p=((p.toNat:Nat):Int):=by rw[IV fy];omega
  simp only[e];rw[Rp p.toNat fy hN,aa,aa,BS (by simp only[an,ag,ap];omega),BS (by simp only[an,ag,ap];omega)]
def ADx{l:List B8} (hne:l≠ []) (hb:l.length<=1000000): ∃y,l.getLast?=some y/\idx l (wr .i64 ((l.length:Int)-1))=some y:=⟨l.getLast hne,ce hne,AEd hne hb⟩
def APc{l:List B8} (hne:l≠ []) (hb:l.length<=1000000):sub l 0 (wr .i64 ((l.length:Int)-1))=some l.dropLast:=by have:0<l.length:=bB.2 hne;rw[show wr .i64 ((l.length:Int)-1)=((l.length-1:Nat):Int) by grind[AO],show(0:Int)=((0:Nat):Int)from rfl,BB l 0 (l.length-1) fy fy,aY,bP,List.dropLast_eq_take]
def Sy: ∀xs:List B8,wS xs.dropLast<=wS xs |[]=>aw _|[x]=>by simp[wS]| x::y::xs=>by have:=Sy (y::xs);grind[List.dropLast_cons_cons,QW]
theorem Agg (h:B8) (p:Int) (path:B8) (hu:ACs (Gs h p path)) (hh:h.length<=1000) (hp:path.length<=5000) (hL:(AX 47 path).drop 1≠ []) (hN:20000<=N):K6 N (Gs h p path)=some (Xh N (Gs h p path)):=by
 have hpt:=hu.1;have hF:(O8 (Gs h p path)).length<=1000000:=by have:=Xe h p;have ht:UC (Gs h p path)=path:=rfl;have he:O8 (Gs h p path)=([104,116,116,112,115,58,47,47]++hpF h p)++path:=rfl;rw[he];simp only[an,ag,ap];omega
 have hw:=UF 47 path;have hw1:=WM (AX 47 path);have hsl:=Jf 47 path;have hne:=Eu 47 path;unfold K6 Xh;rw[ADF _ hu hF hN,aa];by_cases hv:Rx N (Gs h p path)=true;rotate_left;·rw[ae hv,ae hv];rfl
 rw[ah hv,ah hv];change Option.bind (strings_Split N path [47]) _=some (Sv N h p path ((AX 47 path).drop 1));rw[YV _ 47 fy,aa,AVn hne fy];rw[aa];generalize (AX 47 path).drop 1=L at *;have hLl:L.length<=wS L:=by unfold wS;omega
 obtain⟨y,hy1,hy2⟩:=ADx hL fy;dsimp only[AA];change Option.bind (idx L (wr .i64 ((L.length:Int)-1))) (λx10=>if(!(x10==ACW))=true then some (NS,(6:Int))else _)=_;rw[hy2,aa];unfold Sv;rw[hy1];by_cases hd:y=ACW;rotate_left;·rw[ah (by simpa using hd),ah (by simpa using hd)]
 rw[ae (show¬(!(y==ACW))=true by simp[hd]),ae (show¬(some y==some ACW)=false by simp[hd])];by_cases h1:L.length=1;·rw[ah (show((L.length:Int)==1)=true by simp[h1]),ah h1];rfl
 rw[ae (show¬((L.length:Int)==1)=true by simp;omega),ae h1];have hid:=AVg h p;have hdl:=Ya (N:=N) L.dropLast;have hwl:=Sy L;have fin: ∀I:B8,I.length<=100000->((DK N (ApiDID.mk ([119,101,98]:B8) I)).bind λy24=>if(decide ((y24.length:Int)>4096))=true then (some ((ApiDID.mk [] []),5):Option (ApiDID×Int)) else some ((ApiDID.mk ([119,101,98]:B8) I),0))=some (if(Gy ⟨Ky,I⟩).length>4096 then(NS,5)else(⟨Ky,I⟩,0)):=by
  intro I hI;rw[QK _ ⟨fA,by dsimp only;omega⟩,aa];change (if decide (((Gy ⟨Ky,I⟩).length:Int)>4096)=true then _ else _)=_;split;·rename_i AQ;rw[ah (by simp only[aq]at AQ;omega)];rfl
  ·rename_i AQ;rw[ae (by simp only[aq]at AQ;omega)];rfl
 refine(AqX (N:=N) h p hpt fy fy (λJ=>if(path==PE)=true then ((DK N (ApiDID.mk ([119,101,98]:B8) J)).bind λy24=>if(decide ((y24.length:Int)>4096))=true then some ((ApiDID.mk [] []),5) else some ((ApiDID.mk ([119,101,98]:B8) J),0)) else (sub L 0 (wr .i64 ((L.length:Int)-1))).bind λx21=>(CV N x21 (DidwebMapper.mk 0)).bind λy22=>grd (AL (J.length+y22.1.length)) (if(y22.2.e !=0)=true then some ((ApiDID.mk [] []),y22.2.e) else ((DK N (ApiDID.mk ([119,101,98]:B8) (J++y22.1))).bind λy24=>if(decide ((y24.length:Int)>4096))=true then some ((ApiDID.mk [] []),5) else some ((ApiDID.mk ([119,101,98]:B8) (J++y22.1)),0))))).trans ?_;change (if(path==PE)=true then _ else _)=_;by_cases hr:path=PE;·rw[ah (by simpa using hr),ah hr];exact fin (idA h p) fy
 rw[ae (by simpa using hr),ae hr,APc hL fy,aa,AGu _ _ fy hN,aa,BS (by dsimp only;omega)];by_cases hb:L.dropLast.any (U7 N)=true;·rw[ah hb,ah hb];rfl
 ·rw[ae hb,ae hb];dsimp only;rw[ae fB];exact fin _ (by rw[an];omega)
end
end Go.VM
namespace Go.VM
section
variable{N:Nat}
def AeM (k:Unit->Option (ApiDID×Int)): ∀l:B8,Er N k l=if l.all Qo=true then k ()else some (NS,110)
 |[]=>by rw[Er];rfl
 | c::l=>by
  rw[Er];dsimp only[AA];rw[Wv,aa,AeM k l,aI];have h37:(AC c !=37)=!(c==37):=by unfold bne;rw[Q8];rfl
  rw[h37];unfold Qo;cases (c==37)<;>cases FC c<;>cases l.all (λc=>c==37||FC c)<;>rfl
theorem Vk (hN:20000<=N) (h:B8) (p:Int) (path:B8) (k:B8->Option (ApiDID×Int)): ∀(xs:List B8) (acc:B8),acc.length+3 * wS xs<=300000->EJ N (Gs h p path) k xs acc=if xs.any (U7 N)=true then some (NS,110)else k (if path=PE then acc else acc++xs.flatMap (Mw N))
 |[],acc,_=>by rw[EJ];simp
 | x::xs,acc,hb=>by
  have hu:=YZ (N:=N) x;have hd:=J6 (N:=N) x;have hf:=Re (f:=Ip) (n:=3) (λb=>(NT b).1) (Ac N x).1;rw[QW]at hb;rw[EJ,bT,aN];dsimp only[AA];rw[BS fy,AeM,OH _ hN,aa];unfold U7;by_cases h1:x.all Qo=true;rotate_left;·rw[ae h1,cN.2 h1];rfl
  rw[ah h1,h1];by_cases h2:((Ac N x).1==[])=true;·rw[ah h2,h2];rfl
  rw[ae h2,cN.2 h2,bL,be,be];change (if(path==PE)=true then _ else _)=_;by_cases hr:path=PE;·rw[ah (show(path==PE)=true by simpa using hr),Vk hN h p path k xs acc fy];simp only[hr,av];rfl
  ·rw[ae (show¬(path==PE)=true by simpa using hr),APe _ fy,aa,BS (by simp only[ag,ap];omega),BS (by simp only[an,ag,ap];omega)];have e:acc++([58]++(Ac N x).1.flatMap Ip)=acc++Mw N x:=rfl;rw[e,Vk hN h p path k xs _ (by rw[an];omega)];simp only[hr,au,aP];rfl
def AZ0 (hN:20000<=N):((AX 47 PE).drop 1).dropLast.any (U7 N)=false:=by have e:((AX 47 PE).drop 1).dropLast=[[46,119,101,108,108,45,107,110,111,119,110]]:=fB;rw[e];simp only[bT,List.any_nil,cA];unfold U7;rw[VV fB hN];rfl
theorem Aey (h:B8) (p:Int) (path:B8) (hu:ACs (Gs h p path)) (hh:h.length<=1000) (hp:path.length<=5000) (hL:(AX 47 path).drop 1≠ []) (hN:20000<=N):MV N (Gs h p path)=some (Xh N (Gs h p path)):=by
 have hpt:=hu.1;have hF:(O8 (Gs h p path)).length<=1000000:=by have:=Xe h p;have ht:UC (Gs h p path)=path:=rfl;have he:O8 (Gs h p path)=([104,116,116,112,115,58,47,47]++hpF h p)++path:=rfl;rw[he];simp only[an,ag,ap];omega
 have hw:=UF 47 path;have hw1:=WM (AX 47 path);have hsl:=Jf 47 path;have hne:=Eu 47 path;unfold MV Xh;rw[ADf _ hu hF hN,aa];by_cases hv:Rx N (Gs h p path)=true;rotate_left;·rw[ae hv,ae hv];rfl
 rw[ah hv,ah hv];change Option.bind (Hq N path (AC 47)) _=some (Sv N h p path ((AX 47 path).drop 1));rw[Pg _ 47 fy,aa,AVn hne fy];rw[aa];have hroot:path=PE->((AX 47 path).drop 1).dropLast.any (U7 N)=false:=λe=>by rw[e];exact AZ0 hN
 generalize (AX 47 path).drop 1=L at *;have hLl:L.length<=wS L:=by unfold wS;omega
 obtain⟨y,hy1,hy2⟩:=ADx hL fy;dsimp only[AA];change Option.bind (idx L (wr .i64 ((L.length:Int)-1))) (λx10=>if(!(x10==ACW))=true then some (NS,(6:Int))else _)=_;rw[hy2,aa];unfold Sv;rw[hy1];by_cases hd:y=ACW;rotate_left;·rw[ah (by simpa using hd),ah (by simpa using hd)]
 rw[ae (show¬(!(y==ACW))=true by simp[hd]),ae (show¬(some y==some ACW)=false by simp[hd]),APc hL fy,aa];have hpos:0<L.length:=bB.2 hL;by_cases h1:L.length=1;·rw[ah (show(((L.dropLast.length:Nat):Int)==0)=true by simp[h1]),ah h1];rfl
 rw[ae (show¬(((L.dropLast.length:Nat):Int)==0)=true by simp;omega),ae h1];have hid:=AVg h p;have hdl:=Ya (N:=N) L.dropLast;have hwl:=Sy L;have hdll:L.dropLast.length<=wS L.dropLast:=by unfold wS;omega
 have fin: ∀I:B8,I.length<=100000->((Cm N (ApiDID.mk ([119,101,98]:B8) I)).bind λy24=>if(decide ((y24.length:Int)>4096))=true then (some ((ApiDID.mk [] []),5):Option (ApiDID×Int)) else some ((ApiDID.mk ([119,101,98]:B8) I),0))=some (if(Gy ⟨Ky,I⟩).length>4096 then(NS,5)else(⟨Ky,I⟩,0)):=by
  intro I hI;rw[QM _ ⟨fA,by dsimp only;omega⟩,aa];change (if decide (((Gy ⟨Ky,I⟩).length:Int)>4096)=true then _ else _)=_;split;·rename_i AQ;rw[ah (by simp only[aq]at AQ;omega)];rfl
  ·rename_i AQ;rw[ae (by simp only[aq]at AQ;omega)];rfl
 refine(Aqi (N:=N) h p hpt fy fy (λJ=>grd (AL L.dropLast.length) (EJ N (Gs h p path) (λj18=>(Cm N (ApiDID.mk ([119,101,98]:B8) j18)).bind λy42=>if(decide ((y42.length:Int)>4096))=true then some ((ApiDID.mk [] []),5) else some ((ApiDID.mk ([119,101,98]:B8) j18),0)) L.dropLast J))).trans ?_;rw[BS fy,Vk hN h p path _ _ _ fy];by_cases hr:path=PE;·rw[hroot hr,ae fB,ah hr,ah hr];exact fin (idA h p) fy
 rw[ae hr,ae hr];by_cases hb:L.dropLast.any (U7 N)=true;·rw[ah hb,ah hb]
 ·rw[ae hb,ae hb];exact fin _ (by rw[an];omega)
def YJ (c:UInt8): ∀a b:B8,AX c (a++c::b)=AX c a++AX c b
 |[],b=>by simp[AX]
 | x::a,b=>by
  rw[ba,AX,AX,YJ c a b];split;·rfl
  ·cases h:AX c a with |nil=>exact absurd h (Eu c a)|cons p ps=>rfl
theorem Xm (xs:List B8):(AX 47 (Kq N xs)).drop 1≠ []:=by
 unfold Kq;split;·decide
 ·have:ATg=47::ACW:=rfl;rw[this,YJ];intro h;have h1:=a8 List.length h;have h2:0<(AX 47 (xs.flatMap (upT N))).length:=bB.2 (Eu _ _);have h3:(AX 47 ACW).length=1:=fB;simp only[aB,an,ap]at h1;omega
def U6 (N:Nat) (d:ApiDID):ApiDID×Int:=if((toS N d).2 !=0)=true then(NS,(toS N d).2)else Xh N (toS N d).1
def AGR{d:ApiDID} (h: ¬((toS N d).2 !=0)=true):(toS N d).1=Gs (Dr N d).1.host (Dr N d).1.port (Kq N ((AX 58 d.iD).drop 1))/\(O8 (toS N d).1).length<=4096/\((Dr N d).2 !=0)=false/\((AX 58 d.iD).drop 1).any (upB N)=false:=by
 unfold toS at h⊢;split at h;·rename_i h1;exact absurd h1 h
 rename_i h1;rw[ae h1];split at h;·exact absurd rfl h
 rename_i h2;rw[ae h2];split at h;·exact absurd rfl h
 rename_i h3;rw[ae h3];exact⟨rfl,by dsimp only;omega,by simpa using h1,by simpa using h2⟩
def AAa{d:ApiDID} (h: ¬((toS N d).2 !=0)=true):(Kq N ((AX 58 d.iD).drop 1)).length<=4096:=by obtain⟨h1,h2,_⟩:=AGR h;rw[h1]at h2;have he: ∀(a:B8) (b:Int) (c:B8),O8 (Gs a b c)=([104,116,116,112,115,58,47,47]++hpF a b)++c:=λ_ _ _=>rfl;rw[he]at h2;simp only[an,ag,ap]at h2;omega
def AQS{d:ApiDID} (h: ¬((toS N d).2 !=0)=true):ACs (Gs (Dr N d).1.host (Dr N d).1.port (Kq N ((AX 58 d.iD).drop 1))):=by have:=AAa h;obtain⟨a1,a2⟩:=Rl (N:=N) d;exact⟨a1,by simp only[Gs];omega,by simp only[Gs];omega,by simp[Gs],by simp[Gs]⟩
def AdX (d:ApiDID) (hm:d.method.length<=4096) (hi:d.iD.length<=16000) (hN:20000<=N):J9 N d=some (U6 N d):=by
 obtain⟨a1,a2⟩:=Rl (N:=N) d;unfold J9 U6;rw[AkL d hm hi hN,aa];by_cases h:((toS N d).2 !=0)=true;·rw[ah h,ah h];rfl
 have hb:=AAa h;have hu:=AQS h;rw[ae h,ae h,(AGR h).1,Agg _ _ _ hu fy fy (Xm _) hN];rfl
def Ac3 (d:ApiDID) (hm:d.method.length<=4096) (hi:d.iD.length<=16000) (hN:20000<=N):KZ N d=some (U6 N d):=by
 obtain⟨a1,a2⟩:=Rl (N:=N) d;unfold KZ U6;rw[AjF d hm hi hN,aa];by_cases h:((toS N d).2 !=0)=true;·rw[ah h,ah h];rfl
 have hb:=AAa h;have hu:=AQS h;rw[ae h,ae h,(AGR h).1,Aey _ _ _ hu fy fy (Xm _) hN];rfl
end
end Go.VM
namespace Go.VM
section
variable{N:Nat}
def XE{c:UInt8} (h:Fp c=true):c≠35/\c≠63/\c≠47/\c≠58/\c≠37/\c≠64:=by have key:=BH (f:=λn=>(!Fp (UInt8.ofNat n))||(decide (UInt8.ofNat n≠35)&&(decide (UInt8.ofNat n≠63)&&(decide (UInt8.ofNat n≠47)&&(decide (UInt8.ofNat n≠58)&&(decide (UInt8.ofNat n≠37)&&decide (UInt8.ofNat n≠64))))))) (g:=λ_=>true) (by kernel_rfl) c;simp only[bo]at key;rw[h]at key;simpa using key
def AZW{c:UInt8} (h:AJy c=true\/DI c=true\/c=46):Fp (Cn c)=true:=by
 have key:=BH (f:=λn=>(!(AJy (UInt8.ofNat n)||(DI (UInt8.ofNat n)||decide (UInt8.ofNat n=46))))||Fp (Cn (UInt8.ofNat n))) (g:=λ_=>true) (by kernel_rfl) c;simp only[bo]at key;rcases h with h|h|h;·rw[h]at key;simpa using key
 ·rw[h]at key;simpa using key
 ·rw[h]at key⊢;simpa using key
def Yv (c:UInt8): ∀(l:B8) (x:UInt8),x∈l->x=c\/∃p,p∈AX c l/\x∈p
 |[],x,h=>by cases h
 | y :: t,x,h=>by
  rw[AX];split
  ·rename_i hy;rcases aL.1 h with rfl|h;·exact .inl hy
   ·rcases Yv c t x h with h|⟨p,hp,AQ⟩;·exact .inl h
    ·exact .inr ⟨p,by simp[hp],AQ⟩
  ·cases hs:AX c t with
   |nil=>exact absurd hs (Eu c t)
   | cons p ps=>
    simp only;rcases aL.1 h with rfl|h;·exact .inr ⟨x::p,fA,fA⟩
    ·rcases Yv c t x h with h|⟨q,hq,AQ⟩;·exact .inl h
     ·rw[hs]at hq;rcases aL.1 hq with rfl|hq;·exact .inr ⟨y::q,fA,by simp[AQ]⟩
      ·exact .inr ⟨q,by simp[hq],AQ⟩
def ATy{m:Nat}{l:B8} (h:(GY m l).2=0):l.all DI=true:=by
 unfold GY at h;split at h;·cases h
 split at h;·assumption
 ·cases h
def AR6{a:B8} (h:((JW a).2 !=0)=false):(JW a).1≠ []/\∀x,x∈(JW a).1->Fp x=true:=by
 unfold JW at h⊢;split at h;·cases h
 rename_i h0;rw[ae h0];split at h;·cases h
 rename_i h1;rw[ae h1];split at h;rotate_left;·cases h
 rename_i h2;rw[ah h2];refine⟨by simpa using h0,λx AQ=>?_⟩;obtain⟨y,hy,rfl⟩:=bu.1 AQ;refine AZW ?_;rcases Yv 46 a y hy with h|⟨p,hp,hyp⟩;·exact .inr (.inr h)
 ·rw[bE]at h2;rcases h2 with h2|h2;·unfold ABj at h2;rw[az]at h2;have:=aR.1 h2.2 p hp;exact .inr (.inl (aR.1 (ATy (by simpa using this)) y hyp))
  ·unfold Ty at h2;rw[az]at h2;have:=aR.1 h2.1 p hp;unfold Pv at this;simp only[az]at this;exact .inl (aR.1 this.2.2.2.2 y hyp)
def AbT{a:B8} (h:((hpS a).2 !=0)=false):(hpS a).1.host≠ []/\∀x,x∈(hpS a).1.host->Fp x=true:=by
 unfold hpS at h⊢;split at h;·rename_i h1;rw[h1]at h;cases h
 rename_i h1;have hc:=AR6 (a:=(AR 58 a).1) (by simpa using h1);rw[ae h1];split at h
 ·rename_i h2;rw[ah h2];split at h;·rename_i h3;rw[h3]at h;cases h
  ·rename_i h3;rw[ae h3];exact hc
 ·rename_i h2;rw[ae h2];exact hc
def ANH: ∀(k n:Nat) (acc:B8),acc.all Fp=true->(AAs k n acc).all Fp=true
 |0,n,acc,h=>h
 | k+1,n,acc,h=>by
  have hd:Fp (UInt8.ofNat (48+n % 10))=true:=by have:n % 10<10:=dp _ fB;generalize n % 10=d at *;have:d=0\/d=1\/d=2\/d=3\/d=4\/d=5\/d=6\/d=7\/d=8\/d=9:=fy;rcases this with rfl|rfl|rfl|rfl|rfl|rfl|rfl|rfl|rfl|rfl<;>decide
  rw[AAs];split;·rw[aI,hd,h];rfl
  ·exact ANH k _ _ (by rw[aI,hd,h];rfl)
def V6{l:B8} (h: ∀x,x∈l->Fp x=true):l.flatMap Ip=l:=by induction l with |nil=>rfl| cons c l ih=>rw[aN,ih λx AQ=>h x (by simp[AQ])];unfold Ip;rw[ah (h c fA)];rfl
def AEi (n:Nat): ∀x,x∈fmtS n->Fp x=true:=λx AQ=>aR.1 (ANH 20 n [] rfl) x AQ
def Ak2{h:B8} (p:Int) (hh: ∀x,x∈h->Fp x=true):idA h p=(hpF h p).flatMap Ip:=by
 unfold idA hpF;split;·rw[V6 hh]
 ·rw[cR,cR,V6 hh,V6 (AEi _),aP];rfl
def Afb (b:UInt8) (t:B8):Mo (Sr (b.toNat / 16)::Sr (b.toNat % 16)::t)=some b:=by have key:=BH (f:=λn=>decide (Mo [Sr (n / 16),Sr (n % 16)]=some (UInt8.ofNat n))) (g:=λ_=>true) (by kernel_rfl) b;simp only[aq,bo]at key;rw[<-key];rfl
def Anv (b:UInt8) (t:B8):unS (Me b++t)=(unS t).map ((true,b):: ·):=by change F5 _ (37::Sr (b.toNat / 16)::Sr (b.toNat % 16)::t)=_;rw[F5,ah rfl,Afb];simp only[dC,aY];rw[AUT (by simp only[Me,an,ag,ap];omega)]
def Apr{b:UInt8} (h:b≠37) (t:B8):unS ([b]++t)=(unS t).map ((false,b):: ·):=by change F5 _ (b::t)=_;rw[F5,ae h,AUT (by simp only[an,ag,ap];omega)]
def Ag0: ∀l:B8,unS (l.flatMap Ip)=some (l.map λb=>(!Fp b,b))
 |[]=>rfl
 | b::l=>by
  rw[aN,aE];have ih:=Ag0 l;cases hp:Fp b;·rw[show Ip b=Me b by unfold Ip;rw[hp];rfl,Anv,ih];rfl
  ·rw[show Ip b=[b] by unfold Ip;rw[hp];rfl,Apr (XE hp).2.2.2.2.1,ih];rfl
def Aju (b:UInt8):(Me b).all WY=true:=by have key:=BH (f:=λn=>([37,Sr (n / 16),Sr (n % 16)]:B8).all WY) (g:=λ_=>true) (by kernel_rfl) b;exact key
def AVJ (l:B8):(l.flatMap Ip).all WY=true:=by
 rw[aR];intro x AQ;obtain⟨b,_,hb⟩:=List.mem_flatMap.1 AQ;unfold Ip at hb;split at hb;·rename_i hp;rcases bv.1 hb with rfl;unfold WY;rw[hp];rfl
 ·exact aR.1 (Aju b) x hb
def AP5 (l:B8):(l.flatMap Ip).contains 58=false:=by
 cases h:(l.flatMap Ip).contains 58;·rfl
 ·have:=aR.1 (AVJ l) 58 (by simpa using h);exact absurd this fB
def AB9{l:B8} (hb:(l.flatMap Ip).length<=16000) (hN:20000<=N):Ac N (l.flatMap Ip)=(l,0):=by
 rw[VV hb hN,Ag0];simp only[fw];congr 1;conv=>rhs;rw[<-List.map_id l]
 congr 1
def AB6{c:UInt8}{l:B8} (h:l.contains c=false):AX c l=[l]:=by rw[M9,SK h];rfl
def AAm: ∀(ps:List B8) (e:B8),e.contains 58=false->(∀p,p∈ps->p.contains 58=false)->AX 58 (e++ps.flatMap λp=>58::p)=e::ps |[],e,he,_=>by rw[List.flatMap_nil,bm,AB6 he]| p::ps,e,he,h=>by rw[aN,ba,YJ,AB6 he,AAm ps p (h p fA) λq hq=>h q (by simp[hq])];rfl
def AZT (hN:20000<=N){I:B8} (hb:I.length<=16000){ps:List B8} (hs:AX 58 I=ps.map λl=>l.flatMap Ip) (hne: ∀l,l∈ps->l≠ []):(P5 I).2=0/\AHl (P5 I).1=false:=by
 have hpt:=Ih 58 I;have hdk:(AX 58 I).all (Uz N)=true:=by rw[aR];intro p hp;have hl:=hpt p hp;rw[hs]at hp;obtain⟨l,hl',rfl⟩:=bu.1 hp;unfold Uz;rw[AB9 fy hN];rfl
 have hok:((AX 58 I).all λp=>p.all WY)=true:=by rw[aR];intro p hp;rw[hs]at hp;obtain⟨l,hl',rfl⟩:=bu.1 hp;exact AVJ l
 obtain⟨r1,r2⟩:=ALR (N:=N) hN I.length I (aw _) hb;unfold P5;cases hu:unS I with
 |none=>rw[r1 hu]at hdk;cases hdk
 | some us=>
  obtain⟨_,q2,q3⟩:=r2 us hu;rw[hok]at q2;simp only;rw[ah q2.symm];refine⟨rfl,?_⟩;dsimp only;rw[<-q3 q2.symm,ATf _ _ (Eu 58 I)];have hm:=eO (Eu 58 I);have hdl:=aR.1 hdk _ hm;have hl:=hpt _ hm;rw[AMi fy hN hdl];have hm':(AX 58 I).getLast (Eu 58 I)∈ps.map λl=>l.flatMap Ip:=by rw[<-hs];exact hm
  obtain⟨l,hl',he⟩:=bu.1 hm';have hne:=hne l hl';rw[<-he];cases l with |nil=>exact absurd rfl hne| cons b l=>have:=(NT b).2;cases hq:Ip b with |nil=>rw[hq]at this;simp at this|cons y ys=>simp[hq]
def AfD{I:B8} (hl:(Gy ⟨Ky,I⟩).length<=4096) (h1:(P5 I).2=0) (h2:AHl (P5 I).1=false):(I4 (Gy ⟨Ky,I⟩)).2=0:=by obtain⟨k1,k2,k3⟩:=XQ I;unfold I4;rw[ae fy,k1,k2];dsimp only;rw[ae fB,ae fB,ae fB,ae (by rw[h1];decide),h2];rfl
def AkV{U:ApiURI} (h:(ADX N U).2=0):((hpS U.authority).2 !=0)=false/\(ADX N U).1.host=(hpS U.authority).1.host/\(ADX N U).1.port=(hpS U.authority).1.port:=by
 unfold ADX at h⊢;split at h;·cases h
 rename_i h1;rw[ae h1];split at h;·cases h
 rename_i h2;rw[ae h2];split at h;·rename_i h3;dsimp only at h;rw[h]at h3;cases h3
 rename_i h3;rw[ae h3];split at h;·rename_i h4;dsimp only at h;rw[h]at h4;cases h4
 rename_i h4;rw[ae h4];split at h;·rename_i h5;dsimp only at h;rw[h]at h5;cases h5
 rename_i h5;rw[ae h5];split at h;·rename_i h6;dsimp only at h;rw[h]at h6;cases h6
 rename_i h6;rw[ae h6];split at h;·cases h
 rename_i h7;rw[ae h7];exact⟨by simpa using h3,rfl,rfl⟩
def AWq{u:ApiURL} (h:Rx N u=true):ADX N (U8 Ru (ACy u))=(u,0):=by
 unfold Rx at h;split at h;rotate_left;·cases h
 rename_i h0;have hu:=AmM h;have hp:(VC N Ru (ACy u)).2=0:=by simpa using h0
 unfold VC at hu hp;split at hp;·cases hp
 rename_i hl;rw[ae hl]at hu;exact Prod.ext hu.symm hp
theorem AiH{h:B8}{p:Int}{q:B8} (hh: ∀x,x∈h->Fp x=true):(U8 Ru (ACy (Gs h p (47::q)))).authority=hpF h p:=by
 have hF: ∀x,x∈hpF h p->x≠35/\x≠63/\x≠47:=by
  intro x AQ;unfold hpF at AQ;split at AQ;·obtain⟨a,b,c,_⟩:=XE (hh x AQ);exact⟨a,b,c⟩
  ·simp only[aX,bv]at AQ;rcases AQ with(AQ|AQ)|AQ;·obtain⟨a,b,c,_⟩:=XE (hh x AQ);exact⟨a,b,c⟩
   ·subst AQ;decide
   ·obtain⟨a,b,c,_⟩:=XE (AEi _ x AQ);exact⟨a,b,c⟩
 have e:ACy (Gs h p (47::q))=([47,47]++(hpF h p++[47]))++q:=by have:ACy (Gs h p (47::q))=[47,47]++(hpF h p++((47::q)++[])):=rfl;rw[this];simp
 have hne: ∀c:UInt8,(c=35\/c=63)->∀x,x∈([47,47]++(hpF h p++[47]):B8)->x≠c:=by
  intro c hc x AQ;simp only[aX,aL,dw,eC]at AQ;rcases AQ with(AQ|AQ)|AQ|AQ;·subst AQ;rcases hc with rfl|rfl<;>decide
  ·subst AQ;rcases hc with rfl|rfl<;>decide
  ·obtain⟨a,b,_⟩:=hF x AQ;rcases hc with rfl|rfl<;>assumption
  ·subst AQ;rcases hc with rfl|rfl<;>decide
 unfold U8;dsimp only;rw[e,R6 _ _ (hne 35 (.inl rfl))];dsimp only;rw[R6 _ _ (hne 63 (.inr rfl))];dsimp only;generalize (AR 63 (AR 35 q).1).1=z;unfold NV;rw[ah (by rfl)];dsimp only;have:([47,47]++(hpF h p++[47])++z:B8).drop 2=hpF h p++47::z:=fA;rw[this,List.takeWhile_append_of_pos (λx AQ=>by simpa using(hF x AQ).2.2)];simp
def AYP (xs:List B8): ∃q,Kq N xs=47::q:=by
 unfold Kq;split;·exact⟨_,rfl⟩
 ·cases xs with |nil=>exact⟨_,rfl⟩|cons x xs=>exact⟨_,rfl⟩
def round{h:B8}{p:Int}{q:B8} (hN:20000<=N) (hq:q.length<=5000) (hv:(Xh N (Gs h p (47::q))).2=0):Dr N (Xh N (Gs h p (47::q))).1=(⟨h,p⟩,0):=by
 have hw:=UF 47 (47::q);have hw1:=WM (AX 47 (47::q));rw[ag]at hw;unfold Xh at hv⊢;split at hv;rotate_left;·cases hv
 rename_i hval;rw[ah hval];have hw:=AWq hval;obtain⟨w1,w2,w3⟩:=AkV (N:=N) (U:=U8 Ru (ACy (Gs h p (47::q)))) (by rw[hw]);rw[hw]at w2 w3;obtain⟨c1,c2⟩:=AbT w1;have hh: ∀x,x∈h->Fp x=true:=by change h=_ at w2;rw[<-w2]at c2;exact c2
 have hn:h≠ []:=by change h=_ at w2;rw[w2];exact c1
 rw[AiH hh]at w1 w2 w3;have hp:hpS (hpF h p)=(⟨h,p⟩,0):=by refine Prod.ext ?_ (by simpa using w1);change h=_ at w2;change p=_ at w3;cases AQ:(hpS (hpF h p)).1;rw[AQ]at w2 w3;rw[w2,w3]
 have hFn:hpF h p≠ []:=by
  unfold hpF;split;·exact hn
  ·simp
 have main: ∀xs:List B8,(∀x,x∈xs->(Ac N x).1≠ [])->(Gy ⟨Ky,idA h p++xs.flatMap (Mw N)⟩).length<=4096->Dr N ⟨Ky,idA h p++xs.flatMap (Mw N)⟩=(⟨h,p⟩,0):=by
  intro xs AQ hl;have hsp:AX 58 (idA h p++xs.flatMap (Mw N))=(hpF h p::xs.map λx=>(Ac N x).1).map λl=>l.flatMap Ip:=by
   have e:xs.flatMap (Mw N)=(xs.map λx=>(Ac N x).1.flatMap Ip).flatMap λp=>58::p:=by rw[List.flatMap_map];rfl
   rw[e,Ak2 p hh,AAm _ _ (AP5 _) (λy hy=>by obtain⟨x,_,rfl⟩:=bu.1 hy;exact AP5 _),aE,fw];rfl
  have hI:(idA h p++xs.flatMap (Mw N)).length<=4096:=by have:=(XQ (idA h p++xs.flatMap (Mw N))).2.2;omega
  obtain⟨r1,r2⟩:=AZT hN fy hsp (λl hl=>by
   rcases aL.1 hl with rfl|hl;·exact hFn
   ·obtain⟨x,hx',rfl⟩:=bu.1 hl;exact AQ x hx');have hd:=AfD hl r1 r2;have hcut:(AR 58 (idA h p++xs.flatMap (Mw N))).1=(hpF h p).flatMap Ip:=by have:=ABp 58 (idA h p++xs.flatMap (Mw N));rw[hsp]at this;simpa using this.symm
  unfold Dr;rw[ae (show¬((Ky==Ky)=false) by decide),ae (by rw[hd];decide),hcut,AB9 (by have:=Ih 58 (idA h p++xs.flatMap (Mw N)) ((hpF h p).flatMap Ip) (by rw[hsp];simp);omega) hN,hp]
 change (Sv N h p (47::q) ((AX 47 (47::q)).drop 1)).2=0 at hv;change Dr N (Sv N h p (47::q) ((AX 47 (47::q)).drop 1)).1=_;unfold Sv at hv⊢;split at hv;·cases hv
 rename_i h1;rw[ae h1];split at hv;·cases hv
 rename_i h2;rw[ae h2];split at hv
 ·rename_i h3;rw[ah h3];split at hv;·cases hv
  rename_i h4;rw[ae h4];have:=main [] fA (by simpa using h4);simpa using this
 rename_i h3;rw[ae h3];split at hv;·cases hv
 rename_i h5;rw[ae h5];split at hv;·cases hv
 rename_i h6;rw[ae h6];refine main _ (λx AQ=>?_) (by change¬_>_ at h6;omega);have h5':((AX 47 (47::q)).drop 1).dropLast.any (U7 N)=false:=by simpa using h5
 have:=eL.1 h5' x AQ;unfold U7 at this;simp only[bE,fx]at this;simpa using this.2
def AYq{d:ApiDID} (hN:20000<=N) (h:(U6 N d).2=0):((Dr N (U6 N d).1).2 !=0)=false:=by
 unfold U6 at h⊢;split at h;·rename_i h0;dsimp only at h;rw[h]at h0;cases h0
 rename_i h0;rw[ae h0];have hb:=AAa h0;rw[(AGR h0).1]at h⊢;obtain⟨q,hq⟩:=AYP (N:=N) ((AX 58 d.iD).drop 1);rw[hq]at h hb⊢;rw[ag]at hb;rw[round hN fy h];rfl
end
end Go.VM
namespace Go.VM
section
variable{N:Nat}
def id0:ApiID:=⟨0,[],[],0⟩
def ACa (N:Nat) (s:B8):ApiID×Int:=if((TV N s).2 !=0)=true then(id0,(TV N s).2)else(⟨1,AEN (TV N s).1,(TV N s).1.host,0⟩,0)
def ABN (N:Nat) (s:B8):ApiID×Int:=if((Sa N s).2 !=0)=true then(id0,(Sa N s).2)else(⟨2,ADt (Sa N s).1,(Sa N s).1.host,0⟩,0)
def AEQ (N:Nat) (a b:B8):ApiID×Int:=if((VC N a b).2 !=0)=true then(id0,(VC N a b).2)else(⟨3,O8 (VC N a b).1,(VC N a b).1.host,(VC N a b).1.port⟩,0)
def AEg (N:Nat) (s:B8):ApiID×Int:=if((I4 s).2 !=0)=true then(id0,(I4 s).2) else if((U6 N (I4 s).1).2 !=0)=true then(id0,(U6 N (I4 s).1).2) else(⟨4,Gy (U6 N (I4 s).1).1,(Dr N (U6 N (I4 s).1).1).1.host,(Dr N (U6 N (I4 s).1).1).1.port⟩,0)
def PD (s:B8):B8:=(AR 58 s).1.map Cn
def Qs (N:Nat) (s:B8):ApiID×Int:=if s.length>4096 then(id0,5) else if s.contains 58=false then(id0,60) else if(PD s==[97,99,99,116])=true then ACa N s else if(PD s==[109,97,105,108,116,111])=true then ABN N s else if(PD s==[104,116,116,112,115])=true then AEQ N (AR 58 s).1 (AR 58 s).2.1 else if(PD s==[100,105,100])=true then AEg N s else(id0,60)
def AjZ (s:B8) (hb:s.length<=1000000) (hN:20000<=N):JI N s=some (ACa N s):=by obtain⟨l1,l2⟩:=YX (N:=N) s;unfold JI ACa;rw[AbU s hb hN,aa,AWV _ ⟨fy,fy⟩,aa];split<;>rfl
def AiS (s:B8) (hb:s.length<=1000000) (hN:20000<=N):Je N s=some (ABN N s):=by obtain⟨l1,l2⟩:=YG (N:=N) s;unfold Je ABN;rw[AcI s hb hN,aa,AYE _ ⟨fy,fy⟩,aa];split<;>rfl
def ATJ (a b:B8):ACs (VC N a b).1/\(O8 (VC N a b).1).length<=20000:=by
 have hf: ∀u:ApiURL,Kv u.port->u.host.length<=300->u.path.length<=4100->u.query.length<=4100->u.fragment.length<=4100->ACs u/\(O8 u).length<=20000:=λu h1 h2 h3 h4 h5=>by refine⟨⟨h1,fy,fy,fy,fy⟩,?_⟩;have hh:=Xe u.host u.port;have ht:=ABV u;unfold O8;split<;>(simp only[an,ag,ap];omega)
 have hz:ACs Oy/\(O8 Oy).length<=20000:=hf _ (by unfold Kv Oy;simp) (by simp[Oy]) (by simp[Oy]) (by simp[Oy]) (by simp[Oy]);unfold VC;split;·exact hz
 rename_i hl;obtain⟨l1,l2,l3,l4⟩:=Ajc a b;simp only[an,ag]at hl;generalize U8 a b=U at *;have q1:=AJq U.authority;have q2:=AAU U.authority;have n1:=KY (N:=N) U.path inP;have n2:=KY (N:=N) U.query inQ;have n3:=KY (N:=N) U.fragment inQ;have pl:=AAe (N:=N) (Ce N U.path inP).1;unfold ADX;repeat' split
 all_goals first| exact hz| exact hf _ q1 (by dsimp only;omega) (by dsimp only;omega) (by dsimp only;omega) (by dsimp only;omega)
def AnX{a b:B8} (h:L6 a) (hb:(a++58::b).length<=1000000) (hN:20000<=N):J5 N (a++58::b)=some (AEQ N a b):=by unfold J5 AEQ;rw[AU4 h hb hN,aa,Wy _ (ATJ a b).1 fy,aa];split<;>rfl
def Amo{a b:B8} (h:L6 a) (hb:(a++58::b).length<=1000000) (hN:20000<=N):RP N (a++58::b)=some (AEQ N a b):=by unfold RP AEQ;rw[AVX h hb hN,aa,XJ _ (ATJ a b).1 fy,aa];split<;>rfl
def AXc{h:B8}{p:Int}{path:B8}{L:List B8}:(Sv N h p path L).1.method.length<=4096/\(Sv N h p path L).1.iD.length<=4096:=by
 have hf: ∀I:B8,¬(Gy ⟨Ky,I⟩).length>4096->(⟨Ky,I⟩:ApiDID).method.length<=4096/\(⟨Ky,I⟩:ApiDID).iD.length<=4096:=λI hI=>by have:=(XQ I).2.2;exact⟨by simp[Ky],by dsimp only;omega⟩
 unfold Sv;repeat' split
 all_goals first| exact hf _ (by assumption)| simp[NS]
def ACk (d:ApiDID):(U6 N d).1.method.length<=4096/\(U6 N d).1.iD.length<=4096:=by
 unfold U6 Xh;split;·simp[NS]
 split;·exact AXc
 ·simp[NS]
def Anf (s:B8) (hb:s.length<=1000000) (hN:20000<=N):Jz N s=some (AEg N s):=by
 obtain⟨l1,l2⟩:=QI s;obtain⟨c1,c2⟩:=ACk (N:=N) (I4 s).1;unfold Jz AEg;rw[AAJ s hb hN,aa,AdX _ l1 fy hN,aa,AFD _ c1 fy hN,aa,QK _ ⟨fy,fy⟩,aa];split;·rfl
 split;·rfl
 rename_i h;rw[AYq hN (by simpa using h)];rfl
def AoW (s:B8) (hb:s.length<=1000000) (hN:20000<=N):KX N s=some (AEg N s):=by
 obtain⟨l1,l2⟩:=QI s;obtain⟨c1,c2⟩:=ACk (N:=N) (I4 s).1;unfold KX AEg;rw[Wl s hb hN,aa,Ac3 _ l1 fy hN,aa,AYO _ c1 fy hN,aa,QM _ ⟨fy,fy⟩,aa];split;·rfl
 split;·rfl
 rfl
def APx{s:B8} (hc:s.contains 58=true):s=(AR 58 s).1++58::(AR 58 s).2.1:=by
 have hlt:=Mf hc;rw[Gt hc];have e:=aU (p:=(· !=(58:UInt8))) (l:=s);have hd:s.dropWhile (· !=(58:UInt8))=58::(s.dropWhile (· !=(58:UInt8))).drop 1:=by cases hq:s.dropWhile (· !=(58:UInt8))with |nil=>rw[hq,bm]at e;rw[e]at hlt;omega| cons y ys=>have:=dE (λz=>z !=(58:UInt8)) s;rw[hq]at this;simp at this;simp[this]
 conv=>lhs;rw[<-e,hd]
def AEK (s:B8) (hb:s.length<=1000000) (hN:20000<=N):NB N s=some (Qs N s):=by
 have hl:=FP 58 s;unfold NB Qs;by_cases h1:s.length>4096;·rw[ah fC,ah h1];rfl
 rw[ae fC,ae h1,Ml 58 s fy,aa];unfold O0;rw[aa,lower_eq _ fy,aa,Uk];dsimp only[AA];change (if(PD s==[97,99,99,116])=true then _ else(if(PD s==[109,97,105,108,116,111])=true then _ else(if(PD s==[104,116,116,112,115])=true then _ else(if(PD s==[100,105,100])=true then _ else _))))=_;cases hc:s.contains 58;·cases (PD s==[97,99,99,116])<;>cases (PD s==[109,97,105,108,116,111])<;>cases (PD s==[104,116,116,112,115])<;>cases (PD s==[100,105,100])<;>rfl
 rw[AjZ s hb hN,AiS s hb hN,Anf s hb hN];by_cases k1:(PD s==[97,99,99,116])=true;·rw[k1];rfl
 rw[cN.2 k1];by_cases k2:(PD s==[109,97,105,108,116,111])=true;·rw[k2];rfl
 rw[cN.2 k2];by_cases k3:(PD s==[104,116,116,112,115])=true
 ·have hs:=APx hc;have hA:L6 (AR 58 s).1:=by unfold L6;simpa[PD]using k3
  have:=AnX (N:=N) (b:=(AR 58 s).2.1) hA (by rw[<-hs];exact hb) hN;rw[<-hs]at this;rw[k3,this];rfl
 rw[cN.2 k3];by_cases k4:(PD s==[100,105,100])=true;·rw[k4];rfl
 rw[cN.2 k4];rfl
def ATC (s:B8) (hb:s.length<=1000000) (hN:20000<=N):K9 N s=some (Qs N s):=by
 have hl:=FP 58 s;obtain⟨a1,a2⟩:=YX (N:=N) s;obtain⟨m1,m2⟩:=YG (N:=N) s;unfold K9 Qs;by_cases h1:s.length>4096;·rw[ah fC,ah h1];rfl
 rw[ae fC,ae h1,Ai4 58 s hb,aa,XT];cases hc:s.contains 58;·rfl
 rw[ae fB,ae fB,(XG hc hb).1,aa,N8 _ fy,aa];change (if(PD s==[97,99,99,116])=true then _ else(if(PD s==[109,97,105,108,116,111])=true then _ else(if(PD s==[104,116,116,112,115])=true then _ else(if(PD s==[100,105,100])=true then _ else _))))=_;rw[Ab8 s hb hN,AgS s hb hN,AoW s hb hN];simp only[aa];rw[AaK _ ⟨fy,fy⟩,AYK _ ⟨fy,fy⟩];simp only[aa];by_cases k1:(PD s==[97,99,99,116])=true;·rw[ah k1,ah k1];unfold ACa;split<;>rfl
 rw[ae k1,ae k1];by_cases k2:(PD s==[109,97,105,108,116,111])=true;·rw[ah k2,ah k2];unfold ABN;split<;>rfl
 rw[ae k2,ae k2];by_cases k3:(PD s==[104,116,116,112,115])=true
 ·have hs:=APx hc;have hA:L6 (AR 58 s).1:=by unfold L6;simpa[PD]using k3
  have:=Amo (N:=N) (b:=(AR 58 s).2.1) hA (by rw[<-hs];exact hb) hN;rw[<-hs]at this;rw[ah k3,ah k3,this];rfl
 rw[ae k3,ae k3];split<;>rfl
def Apu (s:B8):Kv (Qs N s).1.port/\(Qs N s).1.host.length<=1000000/\(Qs N s).1.text.length<=100000:=by
 obtain⟨a1,a2⟩:=YX (N:=N) s;obtain⟨m1,m2⟩:=YG (N:=N) s;have hz: ∀e:Int,Kv (id0,e).1.port/\(id0,e).1.host.length<=1000000/\(id0,e).1.text.length<=100000:=λe=>⟨by unfold Kv id0;simp,by simp[id0],by simp[id0]⟩;have h0:Kv 0:=by unfold Kv;omega
 unfold Qs;split;·exact hz _
 split;·exact hz _
 split
 ·unfold ACa;split;·exact hz _
  ·refine⟨h0,by dsimp only;omega,?_⟩;unfold AEN;simp only[an,ag,ap];omega
 split
 ·unfold ABN;split;·exact hz _
  ·refine⟨h0,by dsimp only;omega,?_⟩;have:=QZ Sc (Sa N s).1.local_;unfold ADt;simp only[an,ag,ap];omega
 split
 ·unfold AEQ;split;·exact hz _
  ·obtain⟨u1,u2⟩:=ATJ (N:=N) (AR 58 s).1 (AR 58 s).2.1;exact⟨u1.1,u1.2.1,by dsimp only;omega⟩
 split
 ·unfold AEg;obtain⟨c1,c2⟩:=ACk (N:=N) (I4 s).1;split;·exact hz _
  split;·exact hz _
  ·obtain⟨p1,p2⟩:=Rl (N:=N) (U6 N (I4 s).1).1;refine⟨p1,by dsimp only;omega,?_⟩;unfold Gy;simp only[an,ag,ap];omega
 ·exact hz _
end
end Go.VM
namespace Go.VM
def AA1{p:UInt8->Bool} (l:B8):(l.dropWhile p).length<=l.length:=(bN p (l:=l)).length_le
def AMf{sg m:B8}{x y:Int} (hm:m.length<=2000000) (h:x=y\/(100000000<=x/\100000000<=y)\/(x<= -100000000/\y<= -100000000)):Pw sg m x=Pw sg m y:=by
 unfold Pw;dsimp only;have h1:=AA1 (p:=λx:UInt8=>x==48) m;have h2:=ACE (λx:UInt8=>x==48) (m.dropWhile (λx:UInt8=>x==48));generalize m.dropWhile (λx:UInt8=>x==48)=m1 at *;generalize Nv (λx:UInt8=>x==48) m1=sh at *;by_cases hz:sh=[];·rw[ah hz,ah hz]
 ·rw[ae hz,ae hz];rcases h with rfl|⟨ha,hb⟩|⟨ha,hb⟩;·rfl
  ·rw[ah (.inr (.inr fy)),ah (.inr (.inr fy))]
  ·rw[ah (.inr (.inl fy)),ah (.inr (.inl fy))]
def AZ7 (P:B8) (f:Nat) (hf:f<=2000000):QR (2^40) P-f=QR (2^30) P-f\/(100000000<=QR (2^40) P-f/\100000000<=QR (2^30) P-f)\/(QR (2^40) P-f<= -100000000/\QR (2^30) P-f<= -100000000):=by
 unfold QR;generalize JJ 0 (P.dropWhile ([43,45]:B8).contains)=v;by_cases h:v<=2^30;·rw[cL (show v<=2^40 by omega),cL h];exact .inl rfl
 ·rw[eP (show 2^30<=v by omega)];have h2:2^30<=min v (2^40):=Nat.le_min.2 ⟨fy,fB⟩;split;·exact .inr (.inr ⟨fy,fy⟩)
  ·exact .inr (.inl ⟨fy,fy⟩)
def AS0 (sg m:B8) (x:Int):(Pw sg m x).2=0\/Pw sg m x=([],144):=by
 unfold Pw;dsimp only;split;·exact .inl rfl
 ·split;·exact .inr rfl
  ·exact .inl rfl
def Ym (N:Nat) (s:B8):B8×Int:=(Dz N s).getD ([],144)
def Aca{N:Nat}{s:B8} (h0:s≠ []) (hn:Fh s=s.length) (hb:s.length<=2000000) (hN:s.length+30<N):Dz N s=some (Ym N s)/\JP N s=some (Ym N s)/\((Ym N s).2=0\/Ym N s=([],144)):=by
 obtain⟨sg,W,F,FR,P,EX,h⟩:=AZo h0 hn;obtain⟨l1,l2,l3⟩:=h.len;have e1:=AlB (N:=N) h hn fy hN;have e2:=Aid (N:=N) h hn fy hN;have e3:Ym N s=Pw sg (W++F) (QR (2^40) P-F.length):=by unfold Ym;rw[e1];rfl
 refine⟨by rw[e3];exact e1,?_,by rw[e3];exact AS0 _ _ _⟩;rw[e2,e3,AMf (by rw[an];omega) (AZ7 P F.length fy)]
def OG{set t:B8}{n:Nat} (h:0<n):Ed set (t.take n)=Ed set t:=by cases t with |nil=>simp| cons c t=>obtain⟨n,rfl⟩: ∃k,n=k+1:=⟨n-1,fy⟩;rfl
def AAc (p:UInt8->Bool): ∀(t:B8) (n:Nat),((t.take n).takeWhile p).length=min (t.takeWhile p).length n
 |[],n=>by simp
 |c::t,0=>by simp
 | c::t,n+1=>by
  simp only[cc,aJ];cases p c;·simp
  ·simp only[av,ag,AAc p t n];omega
def UG (t:B8) (n:Nat):IC (t.take n)=min (IC t) n:=AAc _ _ _
def Mk (t:B8) (a n:Nat):(t.take n).drop a=(t.drop a).take (n-a):=by rw[List.drop_take]
def AY9{t:B8}{n:Nat} (h:Di t<=n) (hn:0<n):Di (t.take n)=Di t:=by
 unfold Di at *;rw[OG hn];split;·rfl
 ·rename_i hz;rw[ae hz]at h;rw[UG];omega
def ARf{t:B8}{n:Nat} (h:Ff t<=n):Ff (t.take n)=Ff t:=by
 unfold Ff at *;by_cases h1:Ed [46] t=true/\0<IC (t.drop 1)
 ·rw[ah h1]at h⊢;have e:IC ((t.take n).drop 1)=IC (t.drop 1):=by rw[Mk,UG];omega
  rw[ah ⟨by rw[OG fy];exact h1.1,by rw[e];exact h1.2⟩,e]
 ·rw [ae h1];refine ae λh2=>h1 ⟨?_,?_⟩
  ·have:0<n:=by
    rcases c9 n with e|e;·subst e;simp[Ed]at h2
    ·exact e
   rw[OG this]at h2;exact h2.1
  ·have:=h2.2;rw[Mk,UG]at this;omega
def AaE{t:B8}:Nt (t.take (Nt t))=Nt t:=by
 unfold Nt;by_cases h1:Ed [101,69] t=true/\0<IC (t.drop (1+Lx t))
 ·rw[ah h1];have h12:=h1.2;have hg: ∀n,1<n->Lx (t.take n)=Lx t:=λn hn=>by unfold Lx;rw[Mk,OG fy]
  have e:IC ((t.take (1+Lx t+IC (t.drop (1+Lx t)))).drop (1+Lx t))=IC (t.drop (1+Lx t)):=by rw[Mk,UG];omega
  rw[hg _ fy,e,ah ⟨by rw[OG fy];exact h1.1,h1.2⟩]
 ·rw[ae h1,dq];exact ae λh=>by simp[Ed]at h
def AZt (t:B8):Fh (t.take (Fh t))=Fh t:=by
 by_cases hz:Di (t.drop (Aa t))=0
 ·have e:Fh t=0:=by unfold Fh;rw[ah hz]
  rw[e,dq];rfl
 ·have e:Fh t=Aa t+Di (t.drop (Aa t))+Ff (t.drop (Aa t+Di (t.drop (Aa t))))+Nt (t.drop (Aa t+Di (t.drop (Aa t))+Ff (t.drop (Aa t+Di (t.drop (Aa t)))))):=by unfold Fh;rw[ae hz]
  generalize hn:Fh t=n at *;have hs:Aa (t.take n)=Aa t:=by unfold Aa;rw[OG fy]
  have hi:Di ((t.take n).drop (Aa t))=Di (t.drop (Aa t)):=by rw[Mk];exact AY9 fy fy
  have hf:Ff ((t.take n).drop (Aa t+Di (t.drop (Aa t))))=Ff (t.drop (Aa t+Di (t.drop (Aa t)))):=by rw[Mk];exact ARf fy
  have he:Nt ((t.take n).drop (Aa t+Di (t.drop (Aa t))+Ff (t.drop (Aa t+Di (t.drop (Aa t))))))=Nt (t.drop (Aa t+Di (t.drop (Aa t))+Ff (t.drop (Aa t+Di (t.drop (Aa t)))))):=by rw[Mk];have:n-(Aa t+Di (t.drop (Aa t))+Ff (t.drop (Aa t+Di (t.drop (Aa t)))))=Nt (t.drop (Aa t+Di (t.drop (Aa t))+Ff (t.drop (Aa t+Di (t.drop (Aa t)))))):=fy;rw[this];exact AaE
  unfold Fh;rw[hs,hi,ae hz,hf,he];exact e.symm
inductive TK (n:Nat):ApiToken->Prop |fin (p:Int):TK n (ApiToken.mk 1 [] p) |pun (c:UInt8) (p:Int) (h:TL.contains c=true):TK n (ApiToken.mk 2 [c] p) |txt (s:B8) (p:Int) (h:s.length<=n):TK n (ApiToken.mk 3 s p) |num (s:B8) (p:Int) (h0:s≠ []) (h:Fh s=s.length) (hl:s.length<=n):TK n (ApiToken.mk 4 s p) |wrd (s:B8) (p:Int) (h:isWord s=true):TK n (ApiToken.mk 5 s p)
def Aer{N:Nat}{l:B8}{i:Nat} (hi:i<=l.length) (he:(Py N l i).2.2=0):TK l.length (Py N l i).1/\∃j:Nat,(Py N l i).2.1=j/\i<=j/\j<=l.length/\((Py N l i).1.kind≠1->i<j):=by
 unfold Py at he⊢;have hw:=KC wsB (l.drop i);rw[aB]at hw;generalize hp:i+((l.drop i).takeWhile wsB).length=p at he⊢;obtain⟨t,ht⟩: ∃t,l.drop p=t:=⟨_,rfl⟩;have hl:p+t.length=l.length:=by rw[<-ht,aB];omega
 rw[ht]at he⊢;match t,hl,he with
 |[],hl,he=>exact⟨.fin _,p,rfl,fy,by simp at hl;omega,λh=>absurd rfl h⟩
 | c::r,hl,he=>
  simp only[ag]at hl;rw[Yy]at he⊢;by_cases h1:TL.contains c=true;·rw[ah h1];exact⟨.pun c _ h1,p+1,rfl,fy,fy,λ_=>by omega⟩
  rw[ae h1]at he⊢;by_cases h2:c.toNat=34
  ·rw[ah h2]at he⊢;by_cases h3:(H6 N r (p+1) []).2.2=0;·rw[ah h3];have:=ACc N r (p+1) [] h3;exact⟨.txt _ _ (by have:=this.2.2;simp at this;omega),_,rfl,fy,by have:=this.2.1;omega,λ_=>by have:=this.1;omega⟩
   ·rw[ae h3]at he;exact absurd he h3
  rw[ae h2]at he⊢;by_cases h3:(([45]:B8).contains c||DI c)=true
  ·rw[ah h3]at he⊢;by_cases h4:Fh (c::r)=0;·rw[ah h4]at he;cases he
   ·rw[ae h4];have hle:=AGX (c::r);simp only[ag]at hle;have hlen:((c::r).take (Fh (c::r))).length=Fh (c::r):=by rw[bG];simp only[ag];omega
    refine⟨.num _ _ (λe=>h4 (by rw[<-hlen,e];rfl)) (by rw[hlen,AZt]) (by rw[hlen];omega),_,rfl,fy,fy,λ_=>by omega⟩
  rw[ae h3]at he⊢;by_cases h4:isWord ((c::r).takeWhile BU)=true
  ·rw[ah h4];have:=KC BU (c::r);simp only[ag]at this;have hpos:0<((c::r).takeWhile BU).length:=by
    rcases c9 ((c::r).takeWhile BU).length with e|e;·rw[cv.1 e]at h4;simp[isWord]at h4
    ·exact e
   exact⟨.wrd _ _ h4,_,rfl,fy,fy,λ_=>by omega⟩
  ·rw[ae h4]at he;cases he
end Go.VM
