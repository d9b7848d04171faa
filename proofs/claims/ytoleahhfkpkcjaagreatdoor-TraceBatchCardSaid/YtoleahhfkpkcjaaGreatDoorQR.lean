/- Texts of this claim,joined. -/
import Derived.Test.YtoleahhfkpkcjaaGreatDoorQQ
import Derived.Shelf.SlSortCmp.WholeK
import Derived.Ground.SlsfProg
import Derived.Test.YtoleahhfkpkcjaaGreatDoorProg
import Derived.ProofKit
import Derived.JoinedOf
import Derived.Deep.Slices
import Derived.SizedLaws
set_option linter.unusedSimpArgs false
set_option linter.unusedVariables false
set_option maxRecDepth 100000
set_option maxHeartbeats 4000000
variable {w W:Go.World} {F:Nat->Prop} {r recs:List Go.Ord.Rc} {v:Go.Value} {t a b:Int} {α:Type} {E l:List Go.Ord.Ev} {R:List Go.Ord.ET->Prop} {ws:List (List Int)} {T:Go.PF.Ty α} {i g n c:Nat} {L:List Go.Ord.Sc} {d:Go.Ord.bG} {e:Go.TypeId} {args:Array Go.Value} {x:Go.Ord.Rc} {s:ByteArray}
namespace Go.Proofs.YtoleahhfkpkcjaaGreatDoor
open Go.Proofs.Tryz
open Go.PF Go.RowKit Go.Ord
section
def r0:Rc:=LY 0 0 480
def r1:Rc:=LY 1 0 600
def r2:Rc:=LY 1 1 482
theorem WW:gK (ku 65):=⟨ZL,ZL,λi hi=>by
 have:i<1:=hi;obtain rfl:i=0:=ZJ;unfold okB; decide⟩
theorem Uw (h:(a=0\/a=1)/\0<=b/\b<=100/\0<=t/\t<=1000:=by decide):Val L1 (LY a b t):=by
 obtain ⟨h1,h2,h3,h4,h5⟩:=h;have hs: ∀o:Int,0<=o->o<=1->ScOK ⟨0,o,5⟩:=λo _ _=>⟨Int.le_refl 0,by show 0<=o; omega,by show (0:Int)<=5; decide,by show (5:Int)<=10000; decide⟩;refine ⟨ZL,⟨?_,?_,h2,?_,h4,?_,WW,.inl ⟨rfl,rfl⟩⟩,?_⟩<;>simp only [LY]
 .omega
 .omega
 .omega
 .omega
 .rcases h1 with rfl|rfl
  .exact ⟨_,rfl,hs 0 ZL ZL⟩
  .exact ⟨_,rfl,hs 1 ZL ZL⟩
theorem Xh (h:(a=0\/a=1)/\0<=b/\b<=100/\0<=t/\t<=1000:=by decide):(T1 recs).Fit (LY a b t):=⟨Uw h,by
 rcases h.1 with rfl|rfl
 .show (0:Int)<2; decide
 .show (1:Int)<2; decide⟩
theorem ok1 (h:recs.length<400) (hf:(a=0\/a=1)/\0<=b/\b<=100/\0<=t/\t<=1000:=by decide):(T1 recs).addE (LY a b t)=0:=by
 unfold TrS.addE;rw [if_pos ⟨Fg,Xh hf⟩,if_pos (.inr h)]
theorem add1 {l:List Rc} (h:recs.length<400) (hi:eY recs (LY a b t)=l) (hf:(a=0\/a=1)/\0<=b/\b<=100/\0<=t/\t<=1000:=by decide):(T1 recs).add (LY a b t)=T1 l:=by
 unfold TrS.add;rw [if_pos (ok1 h hf),<-hi];rfl
theorem SB {a b:Rc} (h:a.time≠b.time):a≠b:=λe=>h (by rw [e])
theorem aX:(T1 []).add r0=T1 [r0]:=add1 ZL (by
 unfold eY;rw [if_neg ZM];rfl)
theorem aY:(T1 [r0]).add r1=T1 [r0,r1]:=add1 ZL (by
 unfold eY;rw [if_neg (by
  rw [List.mem_singleton];exact SB ZL)]
 kernel_rfl)
theorem aZ:(T1 [r0,r1]).add r1=T1 [r0,r1]:=add1 ZL (by
 unfold eY;rw [if_pos (by simp [r1])])
theorem aW:(T1 [r0,r1]).add r2=T1 [r0,r1,r2]:=add1 ZL (by
 unfold eY;rw [if_neg (by
  simp only [List.mem_cons,List.not_mem_nil,or_false,not_or];exact ⟨SB ZL,SB ZL⟩)]
 kernel_rfl)
def x0:Ev:=⟨0,475,485,[0]⟩
def x1:Ev:=⟨1,595,605,[1]⟩
def x2:Ev:=⟨1,477,487,[2]⟩
theorem Nc {l:List Sc} {lab:ByteArray} {e:Ev} (h: ∀x∈r,x.cont= []/\Val l x/\x.label=lab):Fol l r lab e↔ ∃i x,r[i]?=some x/\e=kz l x (dI [i]):=by
 constructor
 .rintro ⟨c,a,i,x,h1,h2,_,_,h5⟩
  cases h1 with
  | nil=>exact ⟨i,x,h2,h5⟩
  | snoc _ q2 _ q4=>rw [(h _ (ZF q2)).1] at q4; cases q4
 .rintro ⟨i,x,h1,h2⟩;have:=h x (ZF h1);exact ⟨[],lab,i,x,.nil,h1,this.2.1,this.2.2,h2⟩
theorem xu (h: ∀x∈r,∃a b t:Int,x=LY a b t/\(a=0\/a=1)/\0<=b/\b<=100/\0<=t/\t<=1000) (hs:SrtE E) (hE: ∀e,e∈E↔ ∃i x,r[i]?=some x/\e=kz L1 x (dI [i])) (hl:E.length<=14):((T1 r).ans (ku 65)).evs=E:=by
 show (canon (vE L1 r (ku 65))).take 14=E;rw [<-sN hs λe=> ?_,List.take_of_length_le hl];rw [hE,mem_folL,Nc];intro x hx;obtain ⟨a,b,t,rfl,h⟩:=h x hx;exact ⟨rfl,Uw h,rfl⟩
theorem Ym:((T1 [r0]).ans (ku 65)).evs= [x0]:=xu (λx hx=>⟨0,0,480,List.mem_singleton.1 hx,ZL⟩) (List.pairwise_singleton _ _) (λe=>by
 constructor
 .intro he;exact ⟨0,r0,rfl,List.mem_singleton.1 he⟩
 .rintro ⟨i,x,h1,rfl⟩
  match i,h1 with
  | 0,h1=>cases h1; exact List.mem_singleton.2 rfl) ZL
theorem Yl:((T1 [r0,r1]).ans (ku 65)).evs= [x0,x1]:=xu (λx hx=>by
 simp only [List.mem_cons,List.not_mem_nil,or_false] at hx;rcases hx with rfl|rfl
 .exact ⟨0,0,480,rfl,ZL⟩
 .exact ⟨1,0,600,rfl,ZL⟩) (by simp [SrtE,tV]; decide) (λe=>by
 constructor
 .intro he;simp only [List.mem_cons,List.not_mem_nil,or_false] at he;rcases he with rfl|rfl
  .exact ⟨0,r0,rfl,rfl⟩
  .exact ⟨1,r1,rfl,rfl⟩
 .rintro ⟨i,x,h1,rfl⟩
  match i,h1 with
  | 0,h1=>cases h1; exact List.mem_cons_self
  | 1,h1=>cases h1; exact List.mem_cons_of_mem _ List.mem_cons_self) ZL
theorem Yk:((T1 [r0,r1,r2]).ans (ku 65)).evs= [x0,x2,x1]:=xu (λx hx=>by
 simp only [List.mem_cons,List.not_mem_nil,or_false] at hx;rcases hx with rfl|rfl|rfl
 .exact ⟨0,0,480,rfl,ZL⟩
 .exact ⟨1,0,600,rfl,ZL⟩
 .exact ⟨1,1,482,rfl,ZL⟩) (by simp [SrtE,tV]; decide) (λe=>by
 constructor
 .intro he;simp only [List.mem_cons,List.not_mem_nil,or_false] at he;rcases he with rfl|rfl|rfl
  .exact ⟨0,r0,rfl,rfl⟩
  .exact ⟨2,r2,rfl,rfl⟩
  .exact ⟨1,r1,rfl,rfl⟩
 .rintro ⟨i,x,h1,rfl⟩
  match i,h1 with
  | 0,h1=>cases h1; simp; exact .inl rfl
  | 1,h1=>cases h1; simp; exact .inr (.inr rfl)
  | 2,h1=>cases h1; simp; exact .inr (.inl rfl)) ZL
theorem RI:WfD d1:=by
 have two: ∀i,i<List.length d1->i=0\/i=1:=λi hi=>by simp [d1] at hi; omega
 refine ⟨ZL,λi r hr=> ?_,ZL,λi j hi hj=> ?_,λi k j hi hk hj=> ?_⟩;rotate_left
 .rcases two i hi with rfl|rfl<;>rcases two j hj with rfl|rfl<;>decide
 .rcases two i hi with rfl|rfl<;>rcases two j hj with rfl|rfl<;>rcases two k hk with rfl|rfl<;>decide
 match i,hr with
 | 0,hr=>cases hr; rfl
 | 1,hr=>cases hr; rfl
 | i+2,hr=>simp [d1] at hr
theorem TC {e:Ev} (h:e.office=0\/e.office=1):EOK d1 e:=by
 have:List.length d1=2:=rfl;rcases h with h|h<;>exact ⟨ZJ,ZJ⟩
theorem ex1 {a:Ev}:(∃l:List ET,l.map (·.1)= [a]/\HoldsN d l/\R l)↔ ∃t,vU a t/\R [(a,t)]:=by
 constructor
 .rintro ⟨l,hl,h,hR⟩;obtain ⟨x,rfl⟩: ∃x,l= [x]:=List.length_eq_one_iff.1 (by have:=congrArg List.length hl; simpa using this);simp at hl;subst hl;exact ⟨x.2,h.each _ ZM,hR⟩
 .rintro ⟨t,h,hR⟩;exact ⟨[(a,t)],rfl,⟨λx hx=>by rw [List.mem_singleton.1 hx]; exact h,List.pairwise_singleton _ _⟩,hR⟩
theorem ex2 {a b:Ev}:(∃l:List ET,l.map (·.1)= [a,b]/\HoldsN d l/\R l)↔ ∃t u,vU a t/\vU b u/\(yI d (a,t) (b,u)\/yI d (b,u) (a,t))/\R [(a,t),(b,u)]:=by
 constructor
 .rintro ⟨l,hl,h,hR⟩;obtain ⟨x,y,rfl⟩: ∃x y,l= [x,y]:=by
   match l,hl with
   | [x,y],_=>exact ⟨x,y,rfl⟩
  obtain ⟨rfl,rfl⟩:=hl;exact ⟨x.2,y.2,h.each _ ZM,h.each _ ZM,by have:=h.two; simpa using this,hR⟩
 .rintro ⟨t,u,h1,h2,h3,hR⟩;exact ⟨[(a,t),(b,u)],rfl,⟨λx hx=>by
   simp only [List.mem_cons,List.not_mem_nil,or_false] at hx;rcases hx with rfl|rfl
   .exact h1
   .exact h2,by simpa using h3⟩,hR⟩
theorem Ah (h: ∃a:List ET,a.map (·.1)=l/\HoldsN d a/\True):Poss d l:=by
 obtain ⟨a,h1,h2,_⟩:=h;exact ⟨a,h1,h2⟩
theorem WJ:Poss d1 [x0]:=Ah (ex1.2 ⟨480,by simp [vU,x0],trivial⟩)
theorem WI:Poss d1 [x0,x1]:=Ah (ex2.2 ⟨480,600,by simp [vU,x0],by simp [vU,x1],.inl (by simp [yI,at2,d1,x0,x1]),trivial⟩)
theorem WK:Poss d1 [x2,x1]:=Ah (ex2.2 ⟨482,600,by simp [vU,x2],by simp [vU,x1],.inl (by simp [yI,at2,d1,x2,x1]),trivial⟩)
theorem UI: ¬Poss d1 [x0,x2,x1]:=by
 rintro ⟨l,hl,h⟩;obtain ⟨a,b,l,rfl⟩: ∃a b m,l=a::b::m:=by
  rcases l with _|⟨a,_|⟨b,l⟩⟩
  .cases hl
  .simp at hl
  .exact ⟨a,b,l,rfl⟩
 simp at hl;obtain ⟨h1,h2,_⟩:=hl;obtain ⟨a,t⟩:=a;obtain ⟨b,u⟩:=b;subst h1 h2;have q1:=h.each (x0,t) ZM;have q2:=h.each (x2,u) ZM;have q3:=(List.pairwise_cons.1 h.two).1 (x2,u) ZM;simp [x0,x2,yI,at2,d1] at q1 q2 q3;omega
theorem IV (h: ∀e∈l,(e.office=0\/e.office=1)/\ ∀r∈e.needs,0<=r) (hl:l.length<=14):WfP d1 l:=⟨RI,hl,λe he=>TC (h e he).1,λe he=>(h e he).2⟩
theorem XH (h: ∀e∈E,(e.office=0\/e.office=1)/\ ∀r∈e.needs,0<=r) (hl:E.length<=14) (hr:(aV E).length<=14) (hp:Poss d1 E):aQ d1 E 0= [[]]/\bU d1 E 0=0:=by
 have h1:aQ d1 E 0= [[]]:=by
  unfold aQ;rw [if_pos ⟨aD (IV h hl),ZL,ZL,hr⟩];have e:bY (aV E) (min (0:Int).toNat (aV E).length)= [[]]:=by
   show bY (aV E) (min 0 _)=_;cases aV E<;>rfl
  rw [e,List.filter_cons_of_pos]
  .rfl
  .refine aD ?_;have:dB E []=E:=List.filter_eq_self.2 λe _=>by simp [gone]
   rw [this];exact hp
 refine ⟨h1,?_⟩;unfold bU;rw [if_pos ⟨aD (IV h hl),ZL,ZL⟩,if_pos hr,if_neg (by rw [h1]; simp)]
theorem wsX:aQ d1 [x0] 0= [[]]/\bU d1 [x0] 0=0:=XH (by simp [x0]) ZL ZL WJ
theorem wsY:aQ d1 [x0,x1] 0= [[]]/\bU d1 [x0,x1] 0=0:=XH (by simp [x0,x1]) ZL ZL WI
theorem PR: ∀e∈ [x0,x2,x1],(e.office=0\/e.office=1)/\ ∀r∈e.needs,0<=r:=by simp [x0,x1,x2]
theorem Yf:bU d1 [x0,x2,x1] 0=280:=by
 unfold bU;rw [if_pos ⟨aD (IV PR ZL),ZL,ZL⟩,if_pos ZL,if_pos];unfold aQ;rw [if_pos ⟨aD (IV PR ZL),ZL,ZL,ZL⟩];show ([[]]:List (List Int)).filter _=_;rw [List.filter_cons_of_neg]
 .rfl
 .rw [show dB [x0,x2,x1] []= [x0,x2,x1] from rfl,aH UI];decide
theorem Yj:jk d1 [x0,x2,x1]=some [0]:=by
 unfold jk;rw [show vG (aV [x0,x2,x1])= []:: [0]::(vG (aV [x0,x2,x1])).drop 2 from rfl,List.find?_cons_of_neg,List.find?_cons_of_pos]
 .exact aD WK
 .rw [show dB [x0,x2,x1] []= [x0,x2,x1] from rfl,aH UI];decide
theorem exZ:jC d1 [x0,x2,x1]=0/\iU d1 [x0,x2,x1]= [0]:=by
 unfold jC iU;rw [if_pos (aD (IV PR ZL)),if_pos ZL,if_pos ⟨aD (IV PR ZL),ZL⟩,Yj];exact ⟨rfl,rfl⟩
theorem Ut {r:List Ev} (hr: ∀e∈r,e.office=0\/e.office=1) (hl:r.length<=8):WfE d1 r:=⟨RI,ZJ,λe he=>TC (hr e he)⟩
section
variable {E:List Ev}
theorem VN (hE: ∀e∈E,e.office=0\/e.office=1) (hl:E.length<=2) {o f:Int} (ho:o=0\/o=1):(Knd.at o f t).b d1 E=dec (∃τ,f<=τ/\τ<=t/\PV d1 E o τ):=D9 (at_iff.trans ((and_iff_right (Ut (λe he=>by
 rcases ZH he with he|he
 .exact hE e he
 .rw [List.mem_singleton.1 he]; exact ho) ZO)).trans dec_iff.symm))
theorem UL (hE: ∀e∈E,e.office=0\/e.office=1) (hl:E.length<=2) {l:Li} (h:l=liX\/l=liY):(Knd.on l t).b d1 E=dec (PossJ d1 E (As l t) (Bd l t) l.trav):=D9 (on_iff.trans ((and_iff_right (Ut (λe he=>by
 rcases ZH he with he|he
 .exact hE e he
 .simp only [List.mem_cons,List.not_mem_nil,or_false] at he;rcases he with rfl|rfl<;>rcases h with rfl|rfl<;>simp [As,Bd,liX,liY]) ZO)).trans dec_iff.symm))
theorem L4 (hE: ∀e∈E,e.office=0\/e.office=1) (hl:E.length<=2):ll N1 d1 E [[]] 500=(if dec (∃τ,500<=τ/\τ<=500/\PV d1 E 0 τ)=true then [(0,-1)] else [])++((if dec (∃τ,500<=τ/\τ<=500/\PV d1 E 1 τ)=true then [(1,-1)] else [])++((if dec (PossJ d1 E (As liX 500) (Bd liX 500) liX.trav)=true then [(-1,0)] else [])++(if dec (PossJ d1 E (As liY 500) (Bd liY 500) liY.trav)=true then [(-1,1)] else []))):=by
 rw [HV ⟨Ll,⟨ZJ,ZL,RI,λe he=>TC (hE e he)⟩,rfl,ZL,ZL⟩];have can1: ∀k,yC d1 (eX E [[]]) k=k.b d1 E:=λk=>by
  have:dB E []=E:=List.filter_eq_self.2 λe _=>by simp [gone]
  show ([dB E []].any (k.b d1))=_;rw [this];simp
 unfold Ab;simp only [can1];rw [<-VN hE hl (.inl rfl),<-VN hE hl (.inr rfl),<-UL hE hl (.inl rfl),<-UL hE hl (.inr rfl)];show (List.filter (λp:Br×Knd=>p.2.b d1 E) [((0,-1),.at 0 500 500),((1,-1),.at 1 500 500),((-1,0),.on liX 500),((-1,1),.on liY 500)]).map (·.1)=_;simp only [List.filter];cases (Knd.at 0 500 500).b d1 E<;>cases (Knd.at 1 500 500).b d1 E<;>cases (Knd.on liX 500).b d1 E<;>cases (Knd.on liY 500).b d1 E<;>rfl
end
theorem V3 {a b:Ev} {g:Int}:PossJ d1 E a b g↔tN d1 a b g/\ ∃t,vU a t/\vU b (t+g)/\ ∃l:List ET,l.map (·.1)=E/\HoldsN d1 l/\ ∀x∈l,yI d1 x (a,t)\/yI d1 (b,t+g) x:=by
 refine and_congr_right λ_=> ?_;constructor
 .rintro ⟨l,t,hl,h,h2,h3,h4⟩;exact ⟨t,h2,h3,l,hl,h,h4⟩
 .rintro ⟨t,h2,h3,l,hl,h,h4⟩;exact ⟨l,t,hl,h,h2,h3,h4⟩
theorem Wz:ll N1 d1 [x0] [[]] 500= [(0,-1),(-1,0)]:=by
 rw [L4 ZL ZL,aD,aH,aD,aH]
 .rfl
 .rw [V3];simp only [ex1];simp [vU,yI,at2,d1,As,Bd,liY,x0];omega
 .rw [V3];simp only [ex1];simp [tN,vU,yI,at2,d1,As,Bd,liX,x0];exact ⟨480,ZJ,ZJ,480,ZJ⟩
 .unfold PV;simp only [ex1];simp [vU,VU,Wk,at2,d1,x0];omega
 .refine ⟨500,ZL,ZL,?_⟩;unfold PV;simp only [ex1];simp [vU,VU,at2,d1,x0];exact ⟨480,ZJ⟩
theorem Wy:ll N1 d1 [x0,x1] [[]] 500= [(-1,0)]:=by
 rw [L4 ZL ZL,aH,aH,aD,aH]
 .rfl
 .rw [V3];simp only [ex2];simp [vU,yI,at2,d1,As,Bd,liY,x0];omega
 .rw [V3];simp only [ex2];simp [tN,vU,yI,at2,d1,As,Bd,liX,x0,x1];exact ⟨480,ZJ,ZJ,480,ZJ,600,ZJ⟩
 .unfold PV;simp only [ex2];simp [vU,VU,Wk,at2,d1,x0];omega
 .unfold PV;simp only [ex2];simp [vU,VU,Wk,at2,d1,x1];omega
theorem TK {er:Int} (h:((T1 r).ans (ku 65)).evs=E) (hw:aQ d1 E 0=ws) (he:bU d1 E 0=er):(T1 r).ans (ku 65)=⟨E,ws,er⟩:=by
 have h':bO L1 r (ku 65)=E:=h;show Ans.mk (bO L1 r (ku 65)) (aQ (dV N1) (bO L1 r (ku 65)) 0) (bU (dV N1) (bO L1 r (ku 65)) 0)=_;rw [NA,h',hw,he]
theorem R3 {A:Ans} (h:(T1 r).ans (ku 65)=A):(T1 r).qE (ku 65)=A.err:=by
 unfold TrS.qE;rw [if_pos (aD Fg),h]
theorem sayX:(T1 [r0]).qE (ku 65)=0/\(T1 [r0]).qP (ku 65) 500= [(0,-1),(-1,0)]:=by
 have h:=TK Ym wsX.1 wsX.2;have e:=R3 h;refine ⟨e,?_⟩;unfold TrS.qP;rw [if_pos e,h];show ll N1 (dV N1) _ _ _=_;rw [NA];exact Wz
theorem sayY:(T1 [r0,r1]).qE (ku 65)=0/\(T1 [r0,r1]).qP (ku 65) 500= [(-1,0)]/\(T1 [r0,r1]).qV (ku 65)= [x0,x1]/\(T1 [r0,r1]).qW (ku 65)= [[]]:=by
 have h:=TK Yl wsY.1 wsY.2;have e:=R3 h;unfold TrS.qP TrS.qV TrS.qW;rw [if_pos e,if_pos e,if_pos e,h];refine ⟨e,?_,rfl,rfl⟩;show ll N1 (dV N1) _ _ _=_;rw [NA];exact Wy
theorem sayZ:(T1 [r0,r1,r2]).qE (ku 65)=280/\(T1 [r0,r1,r2]).xE (ku 65)=0/\(T1 [r0,r1,r2]).xR (ku 65)= [r0]:=by
 have h:=TK Yk rfl Yf;have e:(T1 [r0,r1,r2]).xE (ku 65)=0:=by
  unfold TrS.xE;rw [if_pos (aD Fg),h];show jC (dV N1) _=_;rw [NA];exact exZ.1
 refine ⟨R3 h,e,?_⟩;unfold TrS.xR;rw [if_pos e,h];show (iU (dV N1) [x0,x2,x1]).map _=_;rw [NA,exZ.2];rfl
theorem VM:(T1 recs).addE ⟨0,0,0,0,⟨#[]⟩,[]⟩=1:=if_neg λh=>by have:1<=0:=h.2.1.comp.lab.1; omega
theorem Xr:TrS.addE ⟨N1,L1,4,[]⟩ x=1:=if_neg λh=>by have:=h.1.m3; simp at this
end
attribute [local irreducible] TW CW KW DW
theorem uf   :
  Gives prog 39 #[ZU a,ZU b,ZU t] w λu g=>ZT w g/\u= .agg (iq ⟨a,b,1,t,⟨#[65]⟩,[]⟩ (.slice none 0 0)).toArray:=by
 refine gw func39 ntmps39 ?_;refine na BC λi j c=> ?_;refine eD (iq ⟨a,b,1,t,⟨#[65]⟩,[]⟩ (.slice none 0 0)) rfl ?_;refine sb rfl c.blk (λk d e h=> ?_);exact rc rfl d ⟨But.below c.below e (by have:=c.at_; omega),rfl⟩
end Go.Proofs.YtoleahhfkpkcjaaGreatDoor
namespace Go.PF
open Go.RowKit
section
open Go
theorem UE {P:Program} {N:Nat} {E:Env} {fn:Func} {R:Value->World->Prop} {s y:Nat} {t t1:TypeId} {cs:List Value} [Sr P t n] (h:(fn.results,look E y,look E s)=(#[.cell y t,.tmp s],some (none,.pointer (some ⟨g,0,none⟩)),some (none,v))) (hB:Blk w g t1 cs) (hR:R (.tuple #[.agg cs.toArray,v]) w) (hn:cs.length=n:=by rfl) :
  KW N [] (bodyPost P fn (λe w'=> ∃v,e= .returned v/\R v w') .ret) E w:=λa ha=>by
 simp only [Prod.mk.injEq] at h;obtain ⟨fs,hu⟩:=Sr.u (P:=P) (t:=t);refine bodyPost_ret ?_ ha.defers ⟨_,rfl,hR⟩;have e1:=(ha.slots s none _ h.2.2).1 trivial;have e2:=(ha.slots y none _ h.2.1).1 trivial;simp only [Array.getD_eq_getD_getElem?] at e1 e2;simp [results,h.1,e1,e2,asAddr,je hu (hn ▸ Sr.s) (λj v hj=>hB.fld hj)]
end
end Go.PF
namespace Go.Proofs.YtoleahhfkpkcjaaGreatDoor
open Go.Proofs.Tryz
open Go.PF Go.RowKit Go.Ord
attribute [local irreducible] TW CW KW DW
theorem s1 (n:UInt8):(ku n).size<=9223372036854775807:=by show 1<=_; decide
theorem J6:Gives prog 38 #[] w λu w'=>ZT w w'/\ ∃(v:NV) (lv:Value),u= .tuple #[.agg v.cells.toArray,lv]/\iA w' v N1/\SS w' lv L1:=by
 refine gw func38 ntmps38 ?_;refine na OX λg0 w0 f0=> ?_;refine bs _ Rn rfl λgw wA fA=> ?_;refine eD [ZU 0,.slice (some ⟨gw,0,none⟩) 7 7,.slice none 0 0] rfl ?_;refine bs _ Vf rfl λg5 w5 f5=> ?_;refine bs _ yx rfl λg6 w6 f6=> ?_;refine eD [.string (ku 112)] rfl ?_;refine bs _ Vd rfl λg7 w7 f7=> ?_;refine eD [.slice (some ⟨g5,0,none⟩) 1 1,.slice (some ⟨g6,0,none⟩) 1 1,.slice (some ⟨g7,0,none⟩) 1 1,.slice none 0 0,.slice none 0 0,.slice none 0 0] rfl ?_;refine Go.PF.nv OX rfl λg2 w8 f8=> ?_;refine eD (Sv UN (.slice none 0 0)) rfl ?_;refine eD (Sv UM (.slice none 0 0)) rfl ?_;refine bs _ Vb rfl λg12 w9 f9=> ?_;refine sf rfl (f8.blk.next f9.below) λw10 hB10 hb10 hs10=> ?_;refine eD (JK liX) rfl ?_;refine eD (JK liY) rfl ?_;refine bs _ Va rfl λg16 w11 f11=> ?_;refine sf rfl (hB10.next f11.below) λw12 hB12 hb12 hs12=> ?_;refine eD (Ki ⟨ku 107,1020,720⟩) rfl ?_;refine bs _ U9 rfl λg19 w13 f13=> ?_;refine sf rfl (hB12.next f13.below) λw14 hB14 hb14 hs14=> ?_;refine eD [ZU 0,ZU 0,ZU 5] rfl ?_;refine eD [ZU 0,ZU 1,ZU 5] rfl ?_;refine bs _ U8 rfl λg24 w15 f15=> ?_;have y0:=f0.at_;have z0:=f0.size;have zA:=fA.below.size;have z5:=f5.below.size;have z6:=f6.below.size;have z7:=f7.below.size
 have y8:=f8.at_;have z8:=f8.size;have z9:=f9.below.size;have z11:=f11.below.size;have z13:=f13.below.size;have z15:=f15.below.size;have b8:ZT w0 w8:=fA.below.step (f5.below.step (f6.below.step (f7.below.step f8.below)));have b10:=But.below (b8.step f9.below) hb10 ZJ;have b12:=But.below (b10.step f11.below) hb12 ZJ;have b14:=But.below (b12.step f13.below) hb14 ZJ;have b15:=b14.step f15.below;refine sb rfl (f0.blk.next b15) (λw16 hB16 hb16 hs16=> ?_);have k15: ∀ {g:Nat} {t:TypeId} {cs:List Value},Blk w15 g t cs->g≠g0->Blk w16 g t cs:=λh a=>hb16.blk h a;have k13: ∀ {g:Nat} {t:TypeId} {cs:List Value},Blk w13 g t cs->g≠g0->g≠g2->Blk w16 g t cs:=λh a b=>k15 ((hb14.blk h b).next f15.below) a;have k11: ∀ {g:Nat} {t:TypeId} {cs:List Value},Blk w11 g t cs->g≠g0->g≠g2->Blk w16 g t cs:=λh a b=>k13 ((hb12.blk h b).next f13.below) a b;have k9: ∀ {g:Nat} {t:TypeId} {cs:List Value},Blk w9 g t cs->g≠g0->g≠g2->Blk w16 g t cs:=λh a b=>k11 ((hb10.blk h b).next f11.below) a b;have yA:=fA.at_;have y5:=f5.at_;have y6:=f6.at_;have y7:=f7.at_;have y9:=f9.at_;have y11:=f11.at_;have y13:=f13.at_;have y15:=f15.at_;have lA:=fA.blk.lt;have l5:=f5.blk.lt;have l6:=f6.blk.lt;have l7:=f7.blk.lt;have l9:=f9.blk.lt
 have l11:=f11.blk.lt;have l13:=f13.blk.lt;have b79:ZT w7 w9:=f8.below.step f9.below;have cw:=k9 (fA.blk.next (f5.below.step (f6.below.step (f7.below.step b79)))) ZJ ZJ;have c5:=k9 (f5.blk.next (f6.below.step (f7.below.step b79))) ZJ ZJ;have c6:=k9 (f6.blk.next (f7.below.step b79)) ZJ ZJ;have c7:=k9 (f7.blk.next b79) ZJ ZJ;have c9:=k9 f9.blk ZJ ZJ;have c11:=k11 f11.blk ZJ ZJ;have c13:=k13 f13.blk ZJ ZJ;have c15:=k15 f15.blk ZJ;have hI: ∀x:Int,-1000000<=x->x<=1000000->fF x:=λx h1 h2=>⟨ZJ,ZJ⟩;have hwk:=kK (T:=boolT) [([.bool true],true),([.bool true],true),([.bool true],true),([.bool true],true),([.bool true],true),([.bool false],false),([.bool false],false)] cw rfl (λp hp=>by
  simp only [List.mem_cons,List.not_mem_nil,or_false] at hp;rcases hp with rfl|rfl|rfl|rfl|rfl|rfl|rfl<;>rfl) ZM
 refine UE rfl hB16 ⟨But.below (f0.below.step b15) hb16 ZJ,⟨.slice (some ⟨g5,0,none⟩) 1 1,.slice (some ⟨g6,0,none⟩) 1 1,.slice (some ⟨g7,0,none⟩) 1 1,.slice (some ⟨g12,0,none⟩) 2 2,.slice (some ⟨g16,0,none⟩) 2 2,.slice (some ⟨g19,0,none⟩) 1 1⟩,.slice (some ⟨g24,0,none⟩) 2 2,rfl,⟨?_,?_,?_,?_,?_,?_⟩,?_⟩
 .exact kK (T:=calT) [([ZU 0,.slice (some ⟨gw,0,none⟩) 7 7,.slice none 0 0],⟨0,[true,true,true,true,true,false,false],[]⟩)] c5 rfl (λp hp=>by
   rw [List.mem_singleton] at hp;subst hp;exact ⟨_,_,rfl,hI 0 ZJ ZJ,hwk,SL.nil _ _ _⟩) ZM
 .exact kK (T:=eT) [([.string (ku 99)],ku 99)] c6 rfl (λp hp=>by
   rw [List.mem_singleton] at hp;subst hp;exact ⟨rfl,s1 _⟩) ZM
 .exact kK (T:=eT) [([.string (ku 112)],ku 112)] c7 rfl (λp hp=>by
   rw [List.mem_singleton] at hp;subst hp;exact ⟨rfl,s1 _⟩) ZM
 .exact kK (T:=ofT) [(Sv UN (.slice none 0 0),UN),(Sv UM (.slice none 0 0),UM)] c9 rfl (λp hp=>by
   simp only [List.mem_cons,List.not_mem_nil,or_false] at hp;rcases hp with rfl|rfl<;>exact ⟨_,rfl,s1 _,hI 0 ZJ ZJ,hI 0 ZJ ZJ,hI 2 ZJ ZJ,hI 1 ZJ ZJ,hI 10 ZJ ZJ,SL.nil _ _ _⟩) ZM
 .exact kK (T:=KO) [(JK liX,liX),(JK liY,liY)] c11 rfl (λp hp=>by
   simp only [List.mem_cons,List.not_mem_nil,or_false] at hp;rcases hp with rfl|rfl
   .exact ⟨rfl,s1 _,hI 0 ZJ ZJ,hI 1 ZJ ZJ,hI 480 ZJ ZJ,hI 120 ZJ ZJ,hI 1 ZJ ZJ⟩
   .exact ⟨rfl,s1 _,hI 1 ZJ ZJ,hI 0 ZJ ZJ,hI 600 ZJ ZJ,hI 60 ZJ ZJ,hI 1 ZJ ZJ⟩) ZM
 .exact kK (T:=yB) [(Ki ⟨ku 107,1020,720⟩,⟨ku 107,1020,720⟩)] c13 rfl (λp hp=>by
   rw [List.mem_singleton] at hp;subst hp;exact ⟨rfl,s1 _,hI 1020 ZJ ZJ,hI 720 ZJ ZJ⟩) ZM
 .exact kK (T:=yh) [([ZU 0,ZU 0,ZU 5],⟨0,0,5⟩),([ZU 0,ZU 1,ZU 5],⟨0,1,5⟩)] c15 rfl (λp hp=>by
   simp only [List.mem_cons,List.not_mem_nil,or_false] at hp;rcases hp with rfl|rfl<;>exact ⟨rfl,hI _ ZL ZL,hI _ ZL ZL,hI _ ZL ZL⟩) ZM
section
structure TrTwo (w0 w:World) (pa:Nat) (Sa:TrS) (pb:Nat) (Sb:TrS) (Ma Fa Mb Fb:Nat->Prop):Prop where
 bel:ZT w0 w
 a:TrA Ma Fa w pa Sa
 b:TrA Mb Fb w pb Sb
 ab: ∀k,Ma k-> ¬Fb k
 ba: ∀k,Mb k-> ¬Fa k
 am: ∀k,Ma k->w0.heap.size<=k
 bm: ∀k,Mb k->w0.heap.size<=k
section
variable {w0 w w':World} {pa pb:Nat} {Sa Sb S:TrS} {Ma Fa Mb Fb:Nat->Prop} {s:ByteArray} {t:Int}
theorem TrTwo.next (h:TrTwo w0 w pa Sa pb Sb Ma Fa Mb Fb) (b:ZT w w'):TrTwo w0 w' pa Sa pb Sb Ma Fa Mb Fb:=⟨h.bel.step b,h.a.later b,h.b.later b,h.ab,h.ba,h.am,h.bm⟩
theorem _root_.Go.PF.Chg.sl {M:Nat->Prop} {l:List α} (c:Chg M w w') (h:SL T F w v l) (a: ∀k,F k-> ¬M k):SL T F w' v l:=h.mono (c.kept a)
end
end
section
theorem ug (h: -10<=a/\a<=10/\ -10<=b/\b<=10/\ -1000<=t/\t<=1000:=by decide):RcOK F w (.slice none 0 0) (LY a b t):=⟨⟨by show _<=a; omega,by show a<=_; omega⟩,⟨by show _<=b; omega,by show b<=_; omega⟩,⟨by show _<=(1:Int); decide,by show (1:Int)<=_; decide⟩,⟨by show _<=t; omega,by show t<=_; omega⟩,by show 1<=_; decide,SL.nil _ _ _⟩
theorem Mw {v:NV} {N:Net} (h:NetIn F w v N):v.cells.all (·.oneCell')=true:=by
 obtain ⟨⟨g,i,a⟩,⟨j,k,b⟩,⟨l,m,c⟩,⟨n,o,d⟩,⟨p,q,e⟩,⟨r,s,f⟩⟩:=NetIn.form h;simp only [NV.cells,a,b,c,d,e,f];rfl
theorem XK {s:Br} (h: -10<=s.1/\s.1<=10/\ -10<=s.2/\s.2<=10:=by decide):sptT.rep F w (Ac s) s:=⟨rfl,⟨ZJ,ZJ⟩,⟨ZJ,ZJ⟩⟩
section
variable {M F:Nat->Prop} {w:World} {p:Nat} {S S':TrS} {s:ByteArray}
theorem Kv {e:Int} (c:TrA M F w p S) (d:RcOK (λ_=>False) w (.slice none 0 0) x) (he:S.addE x=e) (hs:S.add x=S') :
  Gives prog 25 #[.pointer (some ⟨p,0,none⟩),.agg (iq x (.slice none 0 0)).toArray] w λu a=>Chg M w a/\u= ZU e/\TrA (Gr M w a) (Gr F w a) a p S':=by
 subst he hs;exact Rx c d λk b=>b.elim
theorem EL {e:Int} {l:List Br} (b:TabI w) (c:Tabs w) (d:TrA M F w p S) (he:S.qE s=e) (hl:S.qP s t=l) :
  Gives prog 15 #[.pointer (some ⟨p,0,none⟩),.string s,ZU t] w λu a=>Chg M w a/\TrA M (Gr F w a) a p S/\ ∃v,u= .tuple #[v,ZU e]/\SL sptT (λk=>w.heap.size<=k/\k<a.heap.size) a v l:=by
 subst he hl;exact G7 b c d
theorem Qj {e:Int} (d:TabI w) (f:TrA M F w p S) (he:S.qE s=e) (hl:S.qV s=l) (g:S.qW s=ws) :
  Gives prog 13 #[.pointer (some ⟨p,0,none⟩),.string s] w λu a=>Chg M w a/\TrA M (Gr F w a) a p S/\ ∃b c,u= .tuple #[b,c,ZU e]/\SL evT (λk=>w.heap.size<=k/\k<a.heap.size) a b l/\SL (sliceT aS) (λk=>w.heap.size<=k/\k<a.heap.size) a c ws:=by
 subst he hl g;exact Dz d f
theorem Np {e:Int} {l:List Rc} (b:TabI w) (c:TrA M F w p S) (he:S.xE s=e) (hl:S.xR s=l) :
  Gives prog 17 #[.pointer (some ⟨p,0,none⟩),.string s] w λu a=>Chg M w a/\TrA M (Gr F w a) a p S/\ ∃v,u= .tuple #[v,ZU e]/\SL rcT (λk=>w.heap.size<=k/\k<a.heap.size) a v l:=by
 subst he hl;exact zu b c
end
theorem Tu (ht:Tabs w) (hi:TabI w):Gives prog 9 #[] w (ZS w (.bool true)):=by
 refine gw func9 ntmps9 ?_;refine cr rfl J6 λu w1 b1 e=> ?_;obtain ⟨v,lv,rfl,a4,be⟩:=e;refine rn ?_;refine Go.PF.nv OX rfl (λg1 b f1=> ?_) (h1:=Mw a4);have b2:=b1.step f1.below;have l:=ht.below b2;have m:=hi.below b2;have a5:=bA a4 f1.below;have a6:=be.step kL f1.below;have B2:=f1.blk;have z2:=b2.size;clear f1;refine cr rfl (Mv (F0:=λk=>k<b.heap.size) (v:=v) l a5 (λk a=>a) a6 ⟨ZL,ZL⟩) λu w3 b3 e=> ?_;obtain ⟨p,rfl,T3⟩:=e;have T3:TrA _ _ w3 p (T1 []):=T3;have z3:=b3.size;refine rn ?_;refine aM (kv underlying34) rfl ⟨ct,ct,trivial⟩ (λ_=>trivial) ?_;refine rn ?_;refine dD ?_;refine aP rfl rfl ?_;refine cv rfl uf λw4 b4=> ?_;refine dD ?_;refine aP rfl rfl ?_;refine aN rfl (Kv (T3.later b4) ug (ok1 ZL) aX) ?_;rintro _ w5 ⟨c5,rfl,T5⟩;refine rn ?_;refine cF rfl ?_;have b5:ZT b w5:=(b3.step b4).trans (c5.below (λk a=>a.1) (b3.step b4).size);have z4:=b4.size;have z5:=c5.size;refine aN rfl (EL (t:=500) (m.below b5) (l.below b5) T5 sayX.1 sayX.2) ?_;rintro _ w6 ⟨c6,T6,la,rfl,a7⟩;refine rn ?_;have b6:ZT b w6:=b5.trans (c6.below (λk a=>by simp only [Gr] at a; omega) b5.size);have z6:=c6.size;refine cv rfl uf λw7 b7=> ?_;refine aN rfl (Kv (T6.later b7) ug (ok1 ZL) aY) ?_;rintro _ w8 ⟨c8,rfl,T8⟩
 refine rn ?_;have b8:ZT b w8:=(b6.step b7).trans (c8.below (λk a=>by simp only [Gr] at a; omega) (b6.step b7).size);have z7:=b7.size;have z8:=c8.size;refine dD ?_;refine aP rfl rfl ?_;refine cv rfl uf λw9 b9=> ?_;refine dD ?_;refine aP rfl rfl ?_;refine aN rfl (Kv (T8.later b9) ug (ok1 ZL) aZ) ?_;rintro _ a8 ⟨s,rfl,a9⟩;have n:ZT b a8:=(b8.step b9).trans (s.below (λk a=>by simp only [Gr] at a; omega) (b8.step b9).size);have z9:=b9.size;have c2:=s.size;refine rn ?_;refine cF rfl ?_;refine aN rfl (EL (t:=500) (m.below n) (l.below n) a9 sayY.1 sayY.2.1) ?_;rintro _ aa ⟨x,ab,lb,rfl,L⟩;have y:ZT b aa:=n.trans (x.below (λk a=>by simp only [Gr] at a; omega) n.size);have c3:=x.size;refine rn ?_;refine aN rfl (Qj (m.below y) ab sayY.1 sayY.2.2.1 sayY.2.2.2) ?_;rintro _ ac ⟨z,ad,ev,wv,rfl,M,N⟩;have U:ZT b ac:=y.trans (z.below (λk a=>by simp only [Gr] at a; omega) y.size);have c4:=z.size;refine rn ?_;refine cv rfl uf λbf c=> ?_;refine aN rfl (Kv (ad.later c) ug (ok1 ZL) aW) ?_;rintro _ ae ⟨A,rfl,af⟩;have o:ZT b ae:=(U.step c).trans (A.below (λk a=>by simp only [Gr] at a; omega) (U.step c).size);have c7:=c.size;have c9:=A.size;refine rn ?_;refine cF rfl ?_
 refine aN rfl (EL (t:=500) (m.below o) (l.below o) af sayZ.1 rfl) ?_;rintro _ bg ⟨B,ag,lc,rfl,_⟩;have C:ZT b bg:=o.trans (B.below (λk a=>by simp only [Gr] at a; omega) o.size);have ca:=B.size;refine rn ?_;refine aN rfl (Np (m.below C) ag sayZ.2.1 sayZ.2.2) ?_;rintro _ ah ⟨D,ai,ld,rfl,O⟩;have W:ZT b ah:=C.trans (D.below (λk a=>by simp only [Gr] at a; omega) C.size);have cb:=D.size;refine rn ?_;refine eD (iq ⟨0,0,0,0,⟨#[]⟩,[]⟩ (.slice none 0 0)) rfl ?_;refine aN rfl (Kv ai ⟨⟨ZL,ZL⟩,⟨ZL,ZL⟩,⟨ZL,ZL⟩,⟨ZL,ZL⟩,ZL,SL.nil _ _ _⟩ VM rfl) ?_;rintro _ E ⟨F,rfl,Y⟩;rw [show (T1 [r0,r1,r2]).add ⟨0,0,0,0,⟨#[]⟩,[]⟩=T1 [r0,r1,r2] by unfold TrS.add; rw [if_neg (by rw [VM]; decide)]] at Y;have d:ZT b E:=W.trans (F.below (λk a=>by simp only [Gr] at a; omega) W.size);have cc:=F.size;have cd:=B2.next d;refine rn ?_;refine cr rfl (Mv (F0:=λk=>k<E.heap.size) (v:=v) (l.below d) (bA a5 d) (λk a=>a) (a6.step kL d) ⟨ZL,ZL⟩) λu ce G e=> ?_;obtain ⟨q,rfl,aj⟩:=e;have cf:=G.size;refine cv rfl uf λcg r=> ?_;refine aN rfl (Kv (aj.later r) ug Xr rfl) ?_;rintro _ g ⟨Z,rfl,_⟩;have ch:=r.size;have ci:=Z.size;have H:ZT E g:=(G.step r).trans (Z.below (λk a=>a.1) (G.step r).size);have bh:=Y.later H
 obtain ⟨R,j⟩: ∃R:Nat->Prop,∀k,R k↔(b.heap.size<=k/\k<w3.heap.size\/w4.heap.size<=k/\k<w5.heap.size\/w7.heap.size<=k/\k<w8.heap.size\/w9.heap.size<=k/\k<a8.heap.size\/bf.heap.size<=k/\k<ae.heap.size):=⟨_,λ_=>Iff.rfl⟩;have i: ∀k,R k->R k\/w6.heap.size<=k:=λ_ h=> .inl h;have a0:Chg R ah g:=(F.wider λk a=>(j k).2 (by simp only [Gr] at a; omega)).step H;have I:Chg R ac g:=(((Chg.of_below c).trans (A.wider λk a=>(j k).2 (by simp only [Gr] at a; omega)) λ_ h=> .inl h).trans (B.wider λk a=>(j k).2 (by simp only [Gr] at a; omega)) λ_ h=> .inl h).trans ((D.wider λk a=>(j k).2 (by simp only [Gr] at a; omega)).trans a0 λ_ h=> .inl h) λ_ h=> .inl h;have a1:Chg R aa g:=(z.wider λk a=>(j k).2 (by simp only [Gr] at a; omega)).trans I λ_ h=> .inl h;have d6:Chg R w6 g:=((((Chg.of_below b7).trans (c8.wider λk a=>(j k).2 (by simp only [Gr] at a; omega)) λ_ h=> .inl h).step b9).trans (s.wider λk a=>(j k).2 (by simp only [Gr] at a; omega)) λ_ h=> .inl h).trans ((x.wider λk a=>(j k).2 (by simp only [Gr] at a; omega)).trans a1 λ_ h=> .inl h) λ_ h=> .inl h;have ak:=d6.sl a7 λk a q=>by rw [j] at q; omega
 have al:=a1.sl L λk a q=>by rw [j] at q; omega
 have am:=I.sl M λk a q=>by rw [j] at q; omega
 have an:=I.sl N λk a q=>by rw [j] at q; omega
 have ao:=a0.sl O λk a q=>by rw [j] at q; omega
 have ap:ZT w g:=b2.step (d.step H);clear d6 a1 I a0 c5 c6 c8 s x z A B D F Z T3 T5 T6 T8 a9 ab ad af ag ai Y aj a7 L M N O b3 b4 b5 b6 b7 b8 b9 n y U c o C W d G r H;refine rn ?_;refine eD (Ac (-1,0)) rfl ?_;refine Go.PF.nv Uk rfl λcj ck bi=> ?_;refine dD ?_;refine aP rfl rfl ?_;refine eD (Ac (0,-1)) rfl ?_;refine rn ?_;refine dD ?_;refine aP rfl rfl ?_;refine bs (Ac (0,-1)++Ac (-1,0)) TD rfl λbj aq ar=> ?_;have au:=bi.below.step ar.below;have bk:SL sptT (λk=>k<aq.heap.size) aq (.slice (some ⟨bj,0,none⟩) 2 2) [(0,-1),(-1,0)]:=kK (T:=sptT) [(Ac (0,-1),(0,-1)),(Ac (-1,0),(-1,0))] ar.blk rfl (λp S=>by
  simp only [List.mem_cons,List.not_mem_nil,or_false] at S;rcases S with rfl|rfl<;>exact XK) ZM
 refine dD ?_;refine aP rfl rfl ?_;refine cv rfl (decide_eq_true (p:= [((0:Int),(-1:Int)),(-1,0)]= [(0,-1),(-1,0)]) rfl ▸ Aa (ak.below au) bk) λcm bl=> ?_;refine dD ?_;refine aP rfl rfl ?_;refine rn ?_;refine bs (Ac (-1,0)) TD rfl λbm av aw=> ?_;have a2:=(au.step bl).step aw.below;have bn:SL sptT (λk=>k<av.heap.size) av (.slice (some ⟨bm,0,none⟩) 1 1) [(-1,0)]:=kK (T:=sptT) [(Ac (-1,0),(-1,0))] aw.blk rfl (λp S=>by rw [List.mem_singleton.1 S]; exact XK) ZM;refine dD ?_;refine aP rfl rfl ?_;refine cv rfl (decide_eq_true (p:= [((-1:Int),(0:Int))]= [(-1,0)]) rfl ▸ Aa (al.below a2) bn) λcn ax=> ?_;have c1:=am.below (a2.step ax);refine rn ?_;refine dD ?_;refine aP rfl rfl ?_;refine bL 3 rfl rfl kC ?_;rintro a3 ay az;have bo:SL aS (λk=>k<ay.heap.size) ay (.slice (some ⟨a3,0,none⟩) 0 0) []:=kK (T:=aS) [] az.blk rfl ZM ZM;refine dD ?_;refine aP rfl rfl ?_;refine bs [.slice (some ⟨a3,0,none⟩) 0 0] Qp rfl λbq b0 J=> ?_;have ba:=((a2.step ax).step az.below).step J.below;have br:SL (sliceT aS) (λk=>k<b0.heap.size) b0 (.slice (some ⟨bq,0,none⟩) 1 1) [[]]:=kK (T:=sliceT aS) [([.slice (some ⟨a3,0,none⟩) 0 0],[])] J.blk rfl (λp S=>by
  rw [List.mem_singleton.1 S];exact ⟨_,rfl,(bo.below J.below).wider λk a=>Nat.lt_of_lt_of_le a J.below.size⟩) ZM
 refine dD ?_;refine aP rfl rfl ?_;refine cv rfl (decide_eq_true (p:=([[]]:List (List Int))= [[]]) rfl ▸ Ho ((an.below ba).wider λk a=>ZJ) br) λco bt=> ?_;have bu:=ba.step bt;refine dD ?_;refine aP rfl rfl ?_;refine cv rfl uf λcp bv=> ?_;refine dD ?_;refine aP rfl rfl ?_;refine bs (iq r0 (.slice none 0 0)) Gf rfl λbw K bb=> ?_;have bc:=(bu.step bv).step bb.below;have bx:SL rcT (λk=>k<K.heap.size) K (.slice (some ⟨bw,0,none⟩) 1 1) [r0]:=kK (T:=rcT) [(iq r0 (.slice none 0 0),r0)] bb.blk rfl (λp S=>by
  rw [List.mem_singleton.1 S];have h:RcOK (λk=>k<K.heap.size) K (.slice none 0 0) r0:=ug;exact ⟨_,rfl,h.i1,h.i2,h.i3,h.i4,h.lb,h.ct⟩) ZM
 refine dD ?_;refine aP rfl rfl ?_;refine cv rfl (aD (p:= [r0]= [r0]) rfl ▸ BZ (ao.below bc) bx) λcq bz=> ?_;have bd:=bc.step bz;refine dD ?_;refine aP rfl rfl ?_;refine cr rfl (yX (bh.later bd)) λu cs c0 e=> ?_;exact aO rfl ⟨ap.step (bd.step c0),rfl⟩
end
theorem QB {S:TrS} {y:Rc} (h:S.recs.length<400):x∈(S.add y).recs↔x∈S.recs\/(x=y/\S.Right/\S.Fit y):=by
 unfold TrS.add TrS.addE;by_cases a:S.Right/\S.Fit y
 .rw [if_pos a,if_pos (if_pos (.inr h))];show x∈eY S.recs y↔_;rw [mem_insertR,or_comm];exact or_congr_right ⟨λe=>⟨e,a⟩,λe=>e.1⟩
 .rw [if_neg a,if_neg ZL];exact ⟨.inl,λh=>h.elim id λh=>absurd h.2 a⟩
theorem Ku {S:TrS} {y:Rc}:(S.add y).Right↔S.Right:=by
 obtain ⟨a,b,c⟩:=xI S y;rw [right_iff,right_iff,a,b,c]
theorem QC {S:TrS} {y:Rc}:(S.add y).Fit x↔S.Fit x:=by
 obtain ⟨a,b,c⟩:=xI S y;unfold TrS.Fit;rw [a,b]
theorem CO: ∀ {L:List Rc} {S:TrS},S.recs.length+L.length<=400-> ∀ {x:Rc},x∈(S.adds L).recs↔x∈S.recs\/(x∈L/\S.Right/\S.Fit x)
 | [],S,_,x=>by simp [TrS.adds]
 | y::L,S,h,x=>by
  have b:S.recs.length+(L.length+1)<=400:=h;have e:S.adds (y::L)=(S.add y).adds L:=rfl;rw [e,CO (by have:=Iv S y; omega),QB ZJ,Ku,QC,List.mem_cons];constructor
  .rintro ((h|⟨rfl,h⟩)|h)
   .exact .inl h
   .exact .inr ⟨.inl rfl,h⟩
   .exact .inr ⟨.inr h.1,h.2⟩
  .rintro (h|⟨rfl|h,a⟩)
   .exact .inl (.inl h)
   .exact .inl (.inr ⟨rfl,a⟩)
   .exact .inr ⟨h,a⟩
theorem RTr.one {nv:NV} {sv rv:Value} {S:TrS} {m:Int} (h:RTr F w nv sv rv S):(x9 nv sv m rv).all (·.oneCell')=true:=by
 obtain ⟨⟨j,k,a⟩,⟨l,n,b⟩,⟨o,p,c⟩,⟨q,r,d⟩,⟨s,t,e⟩,⟨u,v,f⟩⟩:=NetIn.form h.net;obtain ⟨_,_,g,_⟩:=h.scn.form;obtain ⟨_,_,i,_⟩:=h.recs.form;simp only [x9,a,b,c,d,e,f,g,i];rfl
theorem LW {R:List Rc} (h:R[i]?=some x):recAt R (i:Int)=x:=by
 unfold recAt;rw [Int.toNat_natCast,List.getD_eq_getElem?_getD,h];rfl
end Go.Proofs.YtoleahhfkpkcjaaGreatDoor
namespace Go.Proofs
open Go.Proofs.Tryz
section
open Go.Shelf
def vH:Go.Shelf.Ren:=⟨fun|6=>71|15=>126|14=>125|28=>216|29=>217|20=>208|21=>209|22=>210|23=>211|24=>212|25=>213|26=>214|27=>215|46=>283|47=>284|48=>285|49=>286|50=>287|57=>320|n=>n,fun|22=>31|24=>57|25=>70|3=>3|39=>176|0=>0|53=>234|55=>273|4=>4|46=>266|45=>265|50=>110|5=>5|9=>9|66=>321|70=>325|76=>352|77=>291|n=>n,fun|n=>n⟩
theorem Ej:Go.Proofs.SlLaysF0.n6 prog vH:= {
 mixed:=ZK
 f6:=⟨Tryz.f71.name,ZL,func71.trans (congrArg some ZK)⟩
 f14:=⟨Tryz.f125.name,ZL,func125.trans (congrArg some ZK)⟩
 f15:=func126.trans (congrArg some ZK)
 f20:=⟨Tryz.f208.name,ZL,func208.trans (congrArg some ZK)⟩
 f21:=⟨Tryz.f209.name,ZL,func209.trans (congrArg some ZK)⟩
 f22:=⟨Tryz.f210.name,ZL,func210.trans (congrArg some ZK)⟩
 f23:=⟨Tryz.f211.name,ZL,func211.trans (congrArg some ZK)⟩
 f24:=⟨Tryz.f212.name,ZL,func212.trans (congrArg some ZK)⟩
 f25:=⟨Tryz.f213.name,ZL,func213.trans (congrArg some ZK)⟩
 f26:=⟨Tryz.f214.name,ZL,func214.trans (congrArg some ZK)⟩
 f27:=⟨Tryz.f215.name,ZL,func215.trans (congrArg some ZK)⟩
 f28:=func216.trans (congrArg some ZK)
 f29:=func217.trans (congrArg some ZK)
 f46:=⟨Tryz.f283.name,ZL,func283.trans (congrArg some ZK)⟩
 f47:=func284.trans (congrArg some ZK)
 f48:=func285.trans (congrArg some ZK)
 f49:=⟨Tryz.f286.name,ZL,func286.trans (congrArg some ZK)⟩
 f50:=⟨Tryz.f287.name,ZL,func287.trans (congrArg some ZK)⟩
 f57:=⟨Tryz.f320.name,ZL,func320.trans (congrArg some ZK)⟩
 t0:=underlying0
 a0:=isAgg0
 z0:=sizeOf0
 v0:=zeroValue0
 t3:=underlying3
 a3:=isAgg3
 z3:=sizeOf3
 v3:=zeroValue3
 t4:=underlying4
 a4:=isAgg4
 z4:=sizeOf4
 v4:=zeroValue4
 t5:=underlying5
 a5:=isAgg5
 z5:=sizeOf5
 v5:=zeroValue5
 t9:=underlying9
 a9:=isAgg9
 z9:=sizeOf9
 v9:=zeroValue9
 t22:=underlying31
 a22:=isAgg31
 z22:=sizeOf31
 v22:=zeroValue31
 t25:=underlying70
 a25:=isAgg70
 z25:=sizeOf70
 v25:=zeroValue70
 t39:=underlying176
 a39:=isAgg176
 z39:=sizeOf176
 v39:=zeroValue176
 t45:=underlying265
 a45:=isAgg265
 z45:=sizeOf265
 v45:=zeroValue265
 t46:=underlying266
 a46:=isAgg266
 z46:=sizeOf266
 v46:=zeroValue266
 t50:=underlying110
 a50:=isAgg110
 z50:=sizeOf110
 v50:=zeroValue110
 t53:=underlying234
 a53:=isAgg234
 z53:=sizeOf234
 v53:=zeroValue234
 t55:=underlying273
 a55:=isAgg273
 z55:=sizeOf273
 v55:=zeroValue273
 t66:=underlying321
 a66:=isAgg321
 z66:=sizeOf321
 v66:=zeroValue321
 t70:=underlying325
 a70:=isAgg325
 z70:=sizeOf325
 v70:=zeroValue325
 t76:=underlying352
 a76:=isAgg352
 z76:=sizeOf352
 v76:=zeroValue352
 t77:=underlying291
 a77:=isAgg291
 z77:=sizeOf291
 v77:=zeroValue291}
end
end Go.Proofs
namespace Go.PF
open Go.RowKit
section
theorem OwnS.pre {sz:Nat} {xs:List Value} (h:OwnS w e sz (.slice (some ⟨g,0,none⟩) n c) n xs) (k:i<=n):OwnS w e sz (.slice (some ⟨g,0,none⟩) i c) i (xs.take (i*sz)):=by
 obtain ⟨r,a⟩:=h;rcases a with ⟨a,_⟩|⟨s,l,b,m,o,p,q,d,f,j⟩
 .cases a
 .cases m;refine ⟨by rw [List.length_take]; have:=Nat.mul_le_mul_right sz k; omega,.inr ⟨g,c,b,rfl,o,p,ZJ,d,f,?_⟩⟩;rw [<-j,List.take_take,Nat.min_eq_left (Nat.mul_le_mul_right sz k)]
section
variable {P:Program} {r:Option Nat} {Q:Exit->Act->World->Prop} {N:Nat} {ds:List Deferred} {ops rest:List Oper} {E:Env} {w:World}
variable {ty:TypeId} {pos:String} {af:Array Edge} {x:Operand}
theorem En {t et:TypeId} {sz o m mc:Nat} {xs zs:List Value} (K:P.underlying t=some (.slice et)) (p:zeroCells P et=some zs) (F:zs.length=sz) (G:zs.all (·.oneCell')=true)
  (h:ev E x=some (none,.slice (some (Addr.add ⟨g,0,none⟩ o)) m mc)) (d:OwnS w e sz (.slice (some ⟨g,0,none⟩) n c) n xs) (S:o+m*sz<=n*sz)
  (next: ∀f R,OwnS f e sz (.slice (some ⟨g,0,none⟩) n c) n (splice xs o R)->But g w f->f.heap.size=w.heap.size->TW P r Q N ds ops rest E f) :
  TW P r Q N ds ops (⟨none,.call ⟨.builtin .clear,#[x],#[t]⟩,ty,pos,af,none⟩::rest) E w:=by
 rw [dQ] at h;unfold zeroCells at p
 cases A:P.info? et with
 | none=>rw [A] at p; cases p
 | some i =>
  cases l:i.zero with
  | none=>simp [A,l] at p
  | some z =>
   simp only [A,l,Option.bind_some,Option.map_some,Option.some.injEq] at p;have q: ∀u∈(Builtin.zeroCells z.cells m).toList,u.oneCell'=true:=λu H=>by
    simp only [Builtin.zeroCells,Array.toList_map,List.mem_map,List.mem_range] at H;obtain ⟨j,I,rfl⟩:=H;have J:0<z.cells.size:=Nat.pos_of_ne_zero λe=>by rw [e] at I; simp at I
    have s:=Nat.mod_lt j J;rw [getElem!_pos z.cells _ s];refine List.all_eq_true.1 G _ ?_;rw [<-p];exact Array.mem_toList_iff.2 (Array.getElem_mem s)
   have y:(Builtin.zeroCells z.cells m).toList.length=m*sz:=by
    rw [<-F,<-p];simp [Builtin.zeroCells]
   obtain ⟨f,L,M,B,C⟩:=fC (P:=P) rfl (Builtin.zeroCells z.cells m).toList w xs o 0 d (by rw [y,d.1]; omega) q;by_cases O:m=0
   .subst O;have b:(Builtin.clear_ #[t] ty #[.slice (some ⟨g,o,none⟩) 0 mc]).run P w= .ok (.tuple #[]) w:=by
     simp [Builtin.clear_,run_underlying K]
    refine ek (v:= .tuple #[]) rfl rfl rfl (λa D=> ?_) (next w [] (by simpa [splice] using d) (But.of_below ZA) rfl);simp [execOp,resolve,Go.invoke,Go.builtin,D.eval h trivial,b]
   .have b:(Builtin.clear_ #[t] ty #[.slice (some ⟨g,o,none⟩) m mc]).run P w= .ok (.tuple #[]) f:=by
     simp [Builtin.clear_,run_underlying K,zeroValue,typeInfo,A,l,L]
    refine ek (v:= .tuple #[]) rfl rfl rfl (λa D=> ?_) (next f _ (by simpa using M) B C);simp [execOp,resolve,Go.invoke,Go.builtin,D.eval h trivial,b]
end
end
end Go.PF
namespace Go.Proofs.YtoleahhfkpkcjaaGreatDoor
open Go.Proofs.Tryz
open Go.PF Go.RowKit Go.Ord
attribute [local irreducible] TW CW KW DW
abbrev Rv:=Rc×Value
def encR (p:Rv):List Value:=iq p.1 p.2
noncomputable def mM (acc:List Rv) (q:Rv):List Rv:=if dec (acc.getLast?.map (·.1)=some q.1)=true then acc else acc++ [q]
noncomputable def pY (l:List Rv):List Rv:=l.foldl mM []
theorem rO {p:List α->Prop} (h0:p []) (h1: ∀l x,p l->p (l++ [x])) (l:List α):p l:=by
 have: ∀n,n<=l.length->p (l.take n):=λn=>by
  induction n with
  | zero=>simpa using h0
  | succ n ih =>
   intro h;rw [<-List.take_append_getElem h];exact h1 _ _ (ih ZJ)
 simpa using this l.length ZC
theorem oV (l:List Rv) (q:Rv):pY (l++ [q])=mM (pY l) q:=by
 unfold pY;rw [List.foldl_append];rfl
theorem NG (l:List Rv):(pY l).getLast?.map (·.1)=l.getLast?.map (·.1):=by
 induction l using rO with
 | h0=>rfl
 | h1 l q _ =>
  rw [oV];unfold mM
  split
  .rename_i h;rw [dec_iff.1 h];simp
  .simp
theorem Qt (l:List Rv):(pY l).length<=l.length:=by
 induction l using rO with
 | h0=>exact ZC
 | h1 l q ih =>
  rw [oV];unfold mM
  split<;>simp<;>omega
theorem xx {l:List Rv} (hi:i<l.length):pY (l.take (i+1))=mM (pY (l.take i)) l[i]:=by
 rw [<-List.take_append_getElem hi,oV]
theorem zk {l:List Rv} (hi:i<l.length) (h0:0<i):(pY (l.take i)).getLast?.map (·.1)=some (l[i-1]'(by omega)).1:=by
 have:l.take i=l.take (i-1)++ [l[i-1]'(by omega)]:=by
  rw [List.take_append_getElem,Nat.sub_add_cancel h0]
 rw [NG,this,List.getLast?_concat];rfl
theorem Qv {a b:Rc}:decide (mI a b=0)=dec (a=b):=by
 by_cases h:a=b
 .rw [aD h,decide_eq_true (cmpR_eq.2 h)]
 .rw [aH h,decide_eq_false λe=>h (cmpR_eq.1 e)]
theorem Ag {xs:List Rv} {p:Rv} (hO:OwnS w 57 6 (.slice (some ⟨g,0,none⟩) n c) n (xs.flatMap encR)) (hi:xs[i]?=some p): ∀j u,(iq p.1 p.2)[j]?=some u->w.cell? ((Addr.add ⟨g,0,none⟩ ((i:Int).toNat*6)).add j)=some u:=λj u hj=>by
 rw [Addr.add_add,dQ];refine hO.at0 ?_;rw [Int.toNat_natCast,nN encR 6 xs (λ_ _=>rfl) i j p hi (by have:=(ZE hj).1; simpa [iq] using this)];exact hj
theorem Hq {k:Nat} {z:Int} {xs:List Rv} {p:Rv} (hO:OwnS w 57 6 (.slice (some ⟨g,0,none⟩) n c) n (xs.flatMap encR)) (hi:xs[i]?=some p) (hz:k+z.toNat=i): ∀j u,(iq p.1 p.2)[j]?=some u->w.cell? (((Addr.add ⟨g,0,none⟩ (k*6)).add (z.toNat*6)).add j)=some u:=λj u hj=>by
 have h:=Ag hO hi j u hj;rw [Addr.add_add,dQ] at h;rw [Addr.add_add,Addr.add_add,dQ,<-h];exact congrArg (λo=>w.cell? ⟨g,o,none⟩) ZJ
theorem Rk {u:Value} {a b:Rc} {G:Nat->Prop} (ha:RcOK F w u a) (hb:RcOK G w v b):Gives prog 73 #[.agg (iq a u).toArray,.agg (iq b v).toArray] w λx w'=>ZT w w'/\x= .bool (dec (a=b)):=by
 refine gw func73 ntmps73 ?_;refine nw rfl λg1 w1 f1=> ?_;refine nw rfl λg2 w2 f2=> ?_;have b2:=f1.below.step f2.below;refine cv rfl (rf (ha.below b2) (hb.below b2)) λw3 b3=> ?_;exact aO rfl ⟨b2.step b3,by rw [Qv]⟩
theorem Gn {ps:List Rv} (hO:OwnS w 57 6 (.slice (some ⟨g,0,none⟩) n c) n (ps.flatMap encR)) (hl:ps.length=n) (hp: ∀p∈ps,RcOK F w p.2 p.1) (hF: ∀k,F k->k≠g) (hn:n<=1000) (h1: ∀p∈ps,p.2.oneCell'=true) :
  Gives prog 72 #[.slice (some ⟨g,0,none⟩) n c,.func (.func 73) #[] #[]] w λu w'=>But g w w'/\u= .slice (some ⟨g,0,none⟩) (pY ps).length c/\OwnS w' 57 6 (.slice (some ⟨g,0,none⟩) (pY ps).length c) (pY ps).length ((pY ps).flatMap encR):=by
 have hG: ¬aF (some false):=by simp [aF]
 refine gw func72 ntmps72 ?_;refine cd rfl (λh=> ?_) λh=> ?_
 .have e:pY ps=ps:=by
   rcases ps with _|⟨p,_|⟨q,ps⟩⟩
   .rfl
   .simp [pY,mM,aH]
   .simp at hl; omega
  rw [e,hl];exact aO rfl ⟨But.of_below ZA,rfl,hO⟩
 have hgl:g<w.heap.size:=hO.lt rfl;refine dA [0,1] (λk:Nat=> [(5,none,ZU (k:Int))]) (λk W=>1<=k/\k<=n/\ZT w W/\pY (ps.take k)=ps.take k) (λk=>n-k) 1 ⟨ZJ,ZJ,ZA,?_⟩ ?_
 .rcases ps with _|⟨p,ps⟩
  .simp at hl; omega
  .simp [pY,mM,aH]
 rintro k W ⟨h1k,hkn,bW,hdd⟩;have hOW:=hO.below bW;refine rn ?_;refine cd rfl (λhlt=> ?_) λhge=> ?_;rotate_left 1
 .have hk:k=n:=ZJ;rw [hk,<-hl,List.take_length] at hdd;rw [hdd,hl];exact aO rfl ⟨But.of_below bW,rfl,hOW⟩
 have hk2:k<ps.length:=ZJ;have x1:=Ag hOW (ZD hk2);have x2:=Ag hOW (ZD (show k-1<ps.length by omega));rw [show ((k-1:Nat):Int)=(k:Int)-1 by omega] at x2;have r1:=hp _ (List.getElem_mem hk2);have r2:=hp _ (List.getElem_mem (show k-1<ps.length by omega));have o1:=h1 _ (List.getElem_mem hk2);have o2:=h1 _ (List.getElem_mem (show k-1<ps.length by omega));refine rn ?_;refine dx ?_;refine dc (cap:= []) ZK rfl (λ_ w' hb=>Rk ((r1.below bW).below hb) ((r2.below bW).below hb)) ?_;refine dz λW2 b2=> ?_;have hlast:=zk hk2 ZJ;refine iG rfl (λheq=> ?_) λhne=> ?_;rotate_left 1
 .refine rn ?_;refine cK (k+1) ⟨ZJ,ZJ,bW.step b2,?_⟩;have hne': ¬(some (ps[k-1]'(by omega)).1=some ps[k].1):=λe=>by
   rw [aD (Option.some.inj e).symm] at hne;cases hne
  rw [xx hk2,mM,hlast,aH hne',if_neg ZL,hdd,List.take_append_getElem]
 .obtain ⟨_,_,hv,hnc,_⟩:=hO.form;cases hv;refine rn ?_;rw [if_neg (show¬c=(k:Int).toNat by omega),Int.toNat_natCast,Option.map_some];have e0:pY (ps.take (k+1))=ps.take k:=by
   rw [xx hk2,mM,hlast,if_pos (aD (congrArg some (dec_iff.1 heq).symm)),hdd]
  refine dA [0,1,6] (λx:Nat×Nat=> [(5,none,ZU (x.1:Int)),(7,none,ZU (x.2:Int))]) (λx W=>1<=x.2/\k+x.2<=n/\But g w W/\ ∃rs:List Rv,rs.length=n/\OwnS W 57 6 (.slice (some ⟨g,0,none⟩) n c) n (rs.flatMap encR)/\rs.take x.1=pY (ps.take (k+x.2))/\x.1=(pY (ps.take (k+x.2))).length/\x.1<k+x.2/\ ∀j,k+x.2<=j+1->rs[j]?=ps[j]?) (λx=>n-k-x.2) (k,1)
   ⟨ZC,ZJ,But.of_below (bW.step b2),ps,hl,hOW.below b2,e0.symm,by rw [e0,List.length_take]; omega,ZJ,λ_ _=>rfl⟩ ?_
  clear x1 x2 hOW bW b2 r1 r2 o1 o2;rintro ⟨i,m⟩ W3 ⟨h1m,hmn,gW,rs,hrl,hOW,hrt,hil,hlt2,hrs⟩;dsimp only at h1m hmn hrt hil hlt2 hrs ⊢;refine rn ?_;refine cd rfl (λhlt3=> ?_) λhge3=> ?_
  .have hm2:k+m<ps.length:=ZJ;have hm3:k+m-1<ps.length:=ZJ;have q1:=(hrs (k+m) ZJ).trans (ZD hm2);have q2:=(hrs (k+m-1) ZJ).trans (ZD hm3);have x1:=Hq (k:=k) (z:=(m:Int)) hOW q1 ZJ;have x2:=Hq (k:=k) (z:=(m:Int)-1) hOW q2 ZJ;have kp:Kept F w W3:=Kept.of_blocks λb hb hlt=>gW.block b hlt λe=>hF b hb (by cases e; rfl);have up: ∀p∈ps,RcOK F W3 p.2 p.1:=λp h=>⟨(hp p h).i1,(hp p h).i2,(hp p h).i3,(hp p h).i4,(hp p h).lb,(hp p h).ct.mono kp⟩;have r1:=up _ (List.getElem_mem hm2);have r2:=up _ (List.getElem_mem hm3);have o1:=h1 _ (List.getElem_mem hm2);have o2:=h1 _ (List.getElem_mem hm3);have hlast2:=zk hm2 ZJ;refine rn ?_;refine dx ?_;refine dc (cap:= []) ZK rfl (λ_ w' hb=>Rk (r1.below hb) (r2.below hb)) ?_;refine dz λW4 b4=> ?_;have e2:=xx hm2;refine iG rfl (λhne=> ?_) λheq=> ?_
   .have hne2: ¬ps[k+m].1=(ps[k+m-1]'hm3).1:=λe=>by rw [aD e] at hne; cases hne
    rw [mM,hlast2,aH (λe=>hne2 (Option.some.inj e).symm),if_neg ZL] at e2;refine rn ?_;refine tH (i:=i) (sz:=6) rfl Sz.q rfl rfl (hOW.below b4) ZJ rfl rfl (by simp only [iq,List.all_cons,List.all_nil,o1]; rfl) ?_;rintro W5 hO5 hg5 hs5;rw [show (iq ps[k+m].1 ps[k+m].2)=encR ps[k+m] from rfl,uJ encR 6 rs (λ_ _=>rfl) i ps[k+m] ZJ rfl] at hO5;refine rn ?_;refine cK (x:=(i,m)) (i+1,m+1) ⟨by show 1<=m+1; omega,by show k+(m+1)<=n; omega,(gW.step b4).trans hg5,rs.set i ps[k+m],by simpa using hrl,hO5,?_,?_,by show i+1<k+(m+1); omega,λj hj=> ?_⟩
    .show _=pY (ps.take (k+m+1));rw [e2,<-hrt,List.take_set,<-List.take_append_getElem (show i<rs.length by omega),List.set_append_right _ _ ZO];simp [show i<=rs.length by omega]
    .show _=(pY (ps.take (k+m+1))).length;rw [e2,List.length_append,<-hil];rfl
    .have hj':k+(m+1)<=j+1:=hj;rw [List.getElem?_set_ne ZJ];exact hrs j ZJ
   .have heq2:ps[k+m].1=(ps[k+m-1]'hm3).1:=by
     refine Classical.not_not.1 λe=> ?_;rw [aH e] at heq;cases heq
    rw [mM,hlast2,if_pos (aD (congrArg some heq2.symm))] at e2;refine rn ?_;refine cK (x:=(i,m)) (i,m+1) ⟨by show 1<=m+1; omega,by show k+(m+1)<=n; omega,gW.step b4,rs,hrl,hOW.below b4,?_,?_,by show i<k+(m+1); omega,λj hj=>hrs j (by have:k+(m+1)<=j+1:=hj; omega)⟩
    .show _=pY (ps.take (k+m+1));rw [e2];exact hrt
    .show _=(pY (ps.take (k+m+1))).length;rw [e2];exact hil
  .have hm4:k+m=n:=ZJ;rw [hm4,<-hl,List.take_length] at hrt hil;refine rn ?_;refine En (sz:=6) (o:=i*6) Und.q BC rfl rfl rfl hOW ZJ ?_;rintro W5 ys hO5 hg5 hs5;have hO6:=hO5.pre (i:=i) ZJ;have e3:(splice (rs.flatMap encR) (i*6) ys).take (i*6)=(pY ps).flatMap encR:=by
    rw [<-hrt];unfold splice;have hl1:(rs.flatMap encR).length=rs.length*6:=lD encR 6 rs λ_ _=>rfl;have hl2:((rs.take i).flatMap encR).length=i*6:=by
     rw [lD encR 6 (rs.take i) λ_ _=>rfl,List.length_take,Nat.min_eq_left ZJ]
    rw [List.append_assoc,List.take_append_of_le_length (by rw [List.length_take]; omega),List.take_take,Nat.min_self]
    conv=>lhs; rw [<-List.take_append_drop i rs,List.flatMap_append,<-hl2,List.take_left]
   rw [e3] at hO6;refine rn ?_;rw [<-hil];exact aO rfl ⟨gW.trans hg5,rfl,hO6⟩
section
open Go.Sort Go.Proofs
theorem Wu (f:α->Rc):SWO (ltOf λx y=>mI (f x) (f y)) where
 irrefl x:=by
  show decide (mI (f x) (f x)<0)=false;rw [cmpR_eq.2 rfl];rfl
 trans x y z h1 h2:=by
  simp only [ltOf,decide_eq_true_eq] at *;exact jJ h1 h2
 ntrans x y z h1 h2:=by
  simp only [ltOf,decide_eq_false_iff_not] at *;intro a;rcases Au (f y) (f x) with h|h|h
  .exact h2 (jJ h a)
  .rw [<-h] at a;exact h2 a
  .exact h1 h
theorem Ph {ps:List Rv} (H:OwnS w 57 6 v ps.length (ps.flatMap encR)) (hp: ∀p∈ps,RcOK F w p.2 p.1) (I: ∀k,F k->v.ownBlock≠some k) (hn:ps.length<=1000) :
  Gives prog 71 #[v,.func (.func 62) #[] #[]] w λ_ j=>w.grownBy j v.ownBlock/\ ∃d:List Rv,d.Perm ps/\d.Pairwise (λa b=> ¬mI b.1 a.1<0)/\OwnS j 57 6 v d.length (d.flatMap encR):=by
 obtain ⟨i,f⟩: ∃i:List {p:Rv // RcOK F w p.2 p.1},i.map (·.1)=ps:=⟨ps.pmap Subtype.mk hp,by rw [List.map_pmap]; simp⟩;have o:i.length=ps.length:=by rw [<-f,List.length_map]
 have g: ∀d:List {p:Rv // RcOK F w p.2 p.1},d.flatMap (λy=>encR y.1)=(d.map (·.1)).flatMap encR:=λd=>by rw [List.flatMap_map]
 have h:=Hd Ej (λy: {p:Rv // RcOK F w p.2 p.1}=>encR y.1) ZL (λ_=>rfl) (λy u m=>by
  obtain ⟨A,c,r,_⟩:=y.2.ct.form;simp only [encR,iq,List.mem_cons,List.not_mem_nil,or_false] at m;rcases m with rfl|rfl|rfl|rfl|rfl|rfl
  .rfl
  .rfl
  .rfl
  .rfl
  .rfl
  .rw [r]; rfl) (Wu λy: {p:Rv // RcOK F w p.2 p.1}=>y.1.1) (cb:= #[]) isAgg57 sizeOf57 ZK (by rw [o,g,f]; exact H) ZJ (λW s x y=>by
  have t:=Kept.of_blocks λb B l=>s.block b l λe=>I b B e.symm;have n: ∀z: {p:Rv // RcOK F w p.2 p.1},RcOK F W z.1.2 z.1.1:=λz=>⟨z.2.i1,z.2.i2,z.2.i3,z.2.i4,z.2.lb,z.2.ct.mono t⟩;exact (xB (n x) (n y)).mono λ_ _ q=>⟨⟨q.1,q.2.1⟩,q.2.2⟩)
 refine h.mono ?_;rintro u j ⟨C,d,D,E,G⟩;refine ⟨C,d.map (·.1),by rw [<-f]; exact D.map _,by rw [List.pairwise_map]; exact E,?_⟩;rw [List.length_map,<-g];exact G
end
theorem R7 {ps:List (List Value×Rc)} (h: ∀p∈ps,rcT.rep F w p.1 p.2): ∃a:List Rv,a.flatMap encR=ps.flatMap (·.1)/\a.map (·.1)=ps.map (·.2)/\ ∀p∈a,RcOK F w p.2 p.1:=by
 induction ps with
 | nil=>exact ⟨[],rfl,rfl,λ_ h=>by cases h⟩
 | cons p ps c =>
  obtain ⟨a,d,e,f⟩:=c λq b=>h q (by simp [b]);obtain ⟨v,g,i,j,k,l,m,n⟩:=h p ZM;refine ⟨(p.2,v)::a,by rw [List.flatMap_cons,List.flatMap_cons,d,g]; rfl,by simp [e],λq b=> ?_⟩;rcases List.mem_cons.1 b with rfl|b
  .exact ⟨i,j,k,l,m,n⟩
  .exact f q b
theorem Qr {l:List Rv}: ∀p∈pY l,p∈l:=by
 induction l using rO with
 | h0=>exact λp h=>h
 | h1 l q ih =>
  intro p;rw [oV];unfold mM
  split
  .exact λh=>List.mem_append.2 (.inl (ih p h))
  .exact λh=>List.mem_append.2 ((ZH h).imp (ih p) id)
theorem Qs {l:List Rv} (h:l.Pairwise λa b=> ¬mI b.1 a.1<0):mK ((pY l).map (·.1))/\ ∀x,x∈(pY l).map (·.1)↔x∈l.map (·.1):=by
 induction l using rO with
 | h0=>exact ⟨List.Pairwise.nil,λ_=>Iff.rfl⟩
 | h1 l q ih =>
  obtain ⟨p1,_,p3⟩:=List.pairwise_append.1 h;obtain ⟨hs,hm⟩:=ih p1;rw [oV];unfold mM
  split
  .rename_i e;refine ⟨hs,λx=> ?_⟩;rw [List.map_append,List.mem_append,hm];refine ⟨.inl,λh=>h.elim id λh=> ?_⟩;simp at h;subst h;obtain ⟨z,hz,ez⟩:=Option.map_eq_some_iff.1 (dec_iff.1 e);rw [<-hm];exact List.mem_map.2 ⟨z,List.mem_of_getLast? hz,ez⟩
  .rename_i e;have hle: ∀x∈(pY l).map (·.1),¬wT q.1 x:=λx hx=>by
    rw [hm] at hx;obtain ⟨a,ha,rfl⟩:=List.mem_map.1 hx;exact p3 a ha q ZM
   refine ⟨?_,λx=>by simp only [List.map_append,List.mem_append,hm]⟩;unfold mK at hs ⊢;rw [List.map_append,List.pairwise_append];refine ⟨hs,ZM,λx hx y hy=> ?_⟩;simp at hy;subst hy;have hq:=hle x hx;rcases Au x q.1 with h'|h'|h'
   .exact h'
   .exfalso;rcases List.eq_nil_or_concat (pY l) with e0|⟨l',z,e0⟩
    .rw [e0] at hx; cases hx
    .rw [e0] at hs hx e hle;rw [List.concat_eq_append] at hs hx e hle;rw [List.map_append,List.pairwise_append] at hs;have hz:=λh0=>e (aD (by rw [List.getLast?_concat]; exact congrArg some h0));rw [List.map_append,List.mem_append] at hx;rcases hx with hx|hx
     .have h1:=hs.2.2 x hx z.1 ZM;rw [h'] at h1;exact hle z.1 ZM h1
     .simp at hx;exact hz (hx.symm.trans h')
   .exact absurd h' hq
theorem compact0_c {f:Value}:Gives prog 72 #[.slice none 0 0,f] w λu a=>a=w/\u= .slice none 0 0:=by
 refine gw func72 ntmps72 ?_;refine cd rfl (λh=> ?_) λh=> ?_
 .exact aO rfl ⟨rfl,rfl⟩
 .exact absurd h ZL
theorem Gp {ps:List Rv} (f:OwnS w 57 6 v ps.length (ps.flatMap encR)) (hp: ∀p∈ps,RcOK F w p.2 p.1) (i: ∀k,F k->v.ownBlock≠some k) (hn:ps.length<=1000) :
  Gives prog 72 #[v,.func (.func 73) #[] #[]] w λu a=>w.grownBy a v.ownBlock/\u.ownBlock=v.ownBlock/\OwnS a 57 6 u (pY ps).length ((pY ps).flatMap encR):=by
 rcases f.2 with ⟨j,l⟩|⟨g,c,m,n,_⟩
 .have o:=List.eq_nil_of_length_eq_zero l;subst j o;exact compact0_c.mono λu a ⟨b,d⟩=>by
   subst b d;exact ⟨GB.refl _,rfl,OwnS.nil _ _ _⟩
 .rw [n] at f i ⊢;refine (Gn f rfl hp (λk q e=>i k q (by rw [e]; rfl)) hn λp h=> ?_).mono λu a ⟨b,d,r⟩=> ?_
  .obtain ⟨A,s,e,_⟩:=(hp p h).ct.form;rw [e]; rfl
  .subst d;exact ⟨b,rfl,r⟩
theorem Mt {sv rv:Value} (hL:SS w sv L) (hr:SR w rv r) (hn:r.length<=1000) :
  Gives prog 32 #[sv,rv] w λu w'=>ZT w w'/\ ∃l,mK l/\(∀x,x∈l↔x∈r/\Val L x)/\SL rcT (λk=>w.heap.size<=k/\k<w'.heap.size) w' u l:=by
 obtain ⟨A,b1,rfl,_⟩:=hr.form;have az:=hr.len.2.2;refine gw func32 ntmps32 ?_;refine ze w [0,9,10] 11 r.length (λz:Value×List (List Value×Rc)=> [(5,none,z.1)]) (λi z W=>Go.PF.RowG rcT (λk=>k<w.heap.size) W 57 w.heap.size z.1 z.2/\z.2.map (·.2)=(r.take i).filter λx=>dec (Val L x)) (.slice none 0 0,[]) ⟨Go.PF.RowG.nil,rfl⟩ (λi z W hi hW hJ=> ?_) λz W hW hJ=> ?_
 .obtain ⟨lv,ps⟩:=z;obtain ⟨K,M⟩:=hJ;dsimp only at K M;have hz:=ZD hi;obtain ⟨ad,rfl⟩:=hr.addr ZJ;obtain ⟨xv,ac,s⟩:=SR.get (hr.below hW) hz;obtain ⟨X,R,rfl,_⟩:=s.ct.form;have e2:(r.take (i+1)).filter (λx=>dec (Val L x))=(r.take i).filter (λx=>dec (Val L x))++if dec (Val L r[i])=true then [r[i]] else []:=by
   rw [<-List.take_append_getElem hi,List.filter_append,List.filter_cons,List.filter_nil]
  refine rn ?_;refine nv BC rfl λg2 w2 f2=> ?_;have ae:=(hL.below hW).below f2.below;have af:=s.below f2.below;have b2:=hW.step f2.below;have ag:=K.step f2.below;refine cv rfl (vJ ae af) λw3 b3=> ?_;have a0:=ag.step b3;have ah:=b2.step b3;have f3:=f2.blk.next b3;have ai:ps.length<=1000:=by
   have h1:=congrArg List.length M;rw [List.length_map] at h1;have h2:=(List.filter_sublist (p:=λx=>dec (Val L x)) (l:=r.take i)).length_le;rw [List.length_take] at h2;omega
  refine iG rfl (λhv=> ?_) λhv=> ?_
  .rw [if_pos hv] at e2;have aj:=f2.below.step b3;have D:=s.below aj;have z3:=ah.size;have a3:rcT.rep (λk=>(λk=>k<w.heap.size) k/\iE w3 lv k) w3 (iq r[i] (.slice X r[i].cont.length R)) r[i]:=⟨_,rfl,D.i1,D.i2,D.i3,D.i4,D.lb,D.ct.wider λk t=>⟨t,Nat.lt_of_lt_of_le t z3,λe=>by have:=a0.2.2 k e; omega⟩⟩;refine gg Dk Gf rfl a0 a3 λg ak w4 al b4=> ?_;refine rn ?_;refine qz (ak,ps++ [(iq r[i] (.slice X r[i].cont.length R),r[i])]) ?_;exact ⟨al,by rw [e2,List.map_append,M]; rfl⟩
  .rw [if_neg (by rw [hv]; decide),List.append_nil] at e2;refine rn ?_;refine qz (lv,ps) ?_;exact ⟨a0,by rw [e2]; exact M⟩
 .obtain ⟨lv,ps⟩:=z;obtain ⟨K,M⟩:=hJ;dsimp only at K M ⊢;rw [List.take_length] at M;have ai:ps.length<=1000:=by
   have h1:=congrArg List.length M;rw [List.length_map] at h1;have h2:=(List.filter_sublist (p:=λx=>dec (Val L x)) (l:=r)).length_le;omega
  obtain ⟨xs,x1,x2,x3⟩:=R7 K.2.1;have am:xs.length=ps.length:=by have:=congrArg List.length x2; simpa using this
  have hO:=K.1;rw [<-x1,<-am] at hO;refine aN rfl (Ph hO x3 (λk t=>t.2.2) ZJ) ?_;rintro _ w2 ⟨a4,zs,v,a5,an⟩;have b2:ZT w w2:=hW.grown a4 hW.size K.2.2;obtain ⟨hS,a6⟩:=Qs a5;have E: ∀x,x∈(pY zs).map (·.1)↔x∈r/\Val L x:=λx=>by
   rw [a6,(v.map (·.1)).mem_iff,x2,M,List.mem_filter,dec_iff]
  have kp:Kept (λk=>(λk=>k<w.heap.size) k/\iE W lv k) W w2:=Kept.of_blocks λb hb y=>a4.block b y λe=>hb.2.2 e.symm;have hz: ∀p∈zs,RcOK (λk=>k<w.heap.size) w2 p.2 p.1:=λp hp=>by
   have h:=x3 p (v.mem_iff.1 hp);exact ⟨h.i1,h.i2,h.i3,h.i4,h.lb,(h.ct.mono kp).wider λk t=>t.1⟩
  have a7: ∀k,k<w.heap.size->lv.ownBlock≠some k:=λk t e=>by have:=K.2.2 k e; omega
  have ao:zs.length<=1000:=by rw [v.length_eq]; omega
  refine rn ?_;refine aN rfl (Gp an hz a7 ao) ?_;rintro u3 w3 ⟨a8,ap,a1⟩;have G: ∀g,u3.ownBlock=some g->w.heap.size<=g:=λg h=>K.2.2 g (ap ▸ h);have b3:ZT w w3:=b2.grown a8 b2.size K.2.2;have aq:Kept (λk=>k<w.heap.size) w2 w3:=Kept.of_blocks λb hb y=>a8.block b y λe=>a7 b hb e.symm;have S: ∀p∈pY zs,RcOK (λk=>k<w.heap.size) w3 p.2 p.1:=λp hp=>by
   have h:=hz p (Qr p hp);exact ⟨h.i1,h.i2,h.i3,h.i4,h.lb,h.ct.mono aq⟩
  obtain ⟨o,a9⟩: ∃d,d=pY zs:=⟨_,rfl⟩;rw [<-a9] at a1 S hS E;have b7:o.length<=1000:=by have:=Qt zs; rw [a9]; omega
  obtain ⟨B,H,rfl,_⟩:=a1.form;have z3:=b3.size;have ar: ∀x∈o.map (·.1),x.cont.length<=40:=λx hx=>by
   rcases ((E x).1 hx).2.comp.kinds with ⟨_,e⟩|⟨_,e,_⟩
   .rw [e]; decide
   .exact e
  refine rn ?_;refine ze w [5,27,28] 29 o.length (λ_:Unit=> []) (λi _ W=> ∃xs:List Rv,xs.length=o.length/\xs.map (·.1)=o.map (·.1)/\OwnS W 57 6 (.slice B o.length H) o.length (xs.flatMap encR)/\ ∀j p,xs[j]?=some p->RcOK (λk=>k<W.heap.size/\(j<i->w.heap.size<=k)/\(Value.slice B o.length H).ownBlock≠some k) W p.2 p.1) ()
   ⟨o,rfl,rfl,a1,λj p h=>by
    have q:=S p (ZF h);exact ⟨q.i1,q.i2,q.i3,q.i4,q.lb,q.ct.wider λk t=>⟨ZJ,λh=>ZJ,λe=>by have:=G k e; omega⟩⟩⟩ (λi _ W4 hi I hJ=> ?_) λ_ W4 I hJ=> ?_
  .obtain ⟨m,q1,q2,C,q4⟩:=hJ;have N:i<m.length:=ZJ;have O:=ZD N;obtain ⟨g,rfl⟩: ∃g,B=some ⟨g,0,none⟩:=by
    rcases C.2 with ⟨_,h⟩|⟨g,c,b8,e,_⟩
    .omega
    .cases e; exact ⟨g,rfl⟩
   have ac:=Ag C O;have s:=q4 i _ O;have b0:m[i].1.cont.length<=40:=ar _ (by rw [<-q2]; exact List.mem_map.2 ⟨_,List.getElem_mem N,rfl⟩);refine rn ?_;refine aN rfl (nQ s.ct ZJ) ?_;rintro u5 w5 au;obtain ⟨b5,aa⟩:=Cop.sl ZL (λ_ _ _ _ _ _ h=>h) au ZJ;obtain ⟨Y,U,rfl,_⟩:=aa.form;have z5:=b5.size;have z4:=I.size;have av:=C.below b5;have gW:g<W4.heap.size:=C.lt rfl;refine rn ?_;refine Bo (i:=i) (f:=5) rfl Sz.q rfl rfl av ZJ ZL rfl ?_;rintro w6 ab a2 b9;rw [mO encR 6 m (λ_ _=>rfl) i 5 m[i] (m[i].1,.slice Y m[i].1.cont.length U) _ O ZL rfl] at ab;have aw:w.heap.size<=g:=G g rfl;have b6:ZT w w6:=(I.step b5).grown a2 (I.step b5).size λq hq=>by cases hq; exact aw
   refine rn ?_;refine qz () ⟨m.set i (m[i].1,.slice Y m[i].1.cont.length U),by simpa using q1,?_,ab,λj p Z=> ?_⟩
   .rw [<-q2];apply List.ext_getElem?;intro j;rw [List.getElem?_map,List.getElem?_map,List.getElem?_set];by_cases J:i=j
    .subst J;rw [if_pos rfl,if_pos N,O];rfl
    .rw [if_neg J]
   .rw [List.getElem?_set] at Z;by_cases J:i=j
    .subst J;rw [if_pos rfl,if_pos N] at Z;cases Z;refine ⟨s.i1,s.i2,s.i3,s.i4,s.lb,?_⟩;refine SL.mono (w:=w5) (aa.wider λk t=>⟨ZJ,λ_=>ZJ,λe=>by have e':g=k:=Option.some.inj e; omega⟩) (Kept.of_blocks λb hb y=>a2.block b y λe=>hb.2.2 e.symm)
    .rw [if_neg J] at Z;have q:=q4 j p Z;refine ⟨q.i1,q.i2,q.i3,q.i4,q.lb,?_⟩;have q5:=q.ct.below b5;refine SL.mono (w:=w5) (q5.wider λk t=>⟨ZJ,λh=>t.2.1 ZJ,t.2.2⟩) (Kept.of_blocks λb hb y=>a2.block b y λe=>hb.2.2 e.symm)
  .obtain ⟨m,q1,q2,C,q4⟩:=hJ;refine aO rfl ⟨I,o.map (·.1),hS,E,?_⟩;have ax:(m.map λp=>(encR p,p.1)).flatMap (·.1)=m.flatMap encR:=by rw [List.flatMap_map]
   have ay:OwnS W4 57 rcT.n (.slice B o.length H) o.length ((m.map λp=>(encR p,p.1)).flatMap (·.1)):=by rw [ax]; exact C
   have h:=eB (T:=rcT) (F:=λk=>w.heap.size<=k/\k<W4.heap.size) (m.map λp=>(encR p,p.1)) (λp hp=>by
    obtain ⟨a,ha,rfl⟩:=List.mem_map.1 hp;obtain ⟨j,Z⟩:=List.mem_iff_getElem?.1 ha;have ba:=(ZE Z).1;have q:=q4 j a Z;exact ⟨a.2,rfl,q.i1,q.i2,q.i3,q.i4,q.lb,q.ct.wider λk t=>⟨t.2.1 ZJ,t.1⟩⟩) ZL ay (by simp [q1]) (λg hg=>⟨G g hg,C.lt hg⟩) ZO
   rw [List.map_map] at h;rw [<-q2];exact h
theorem JE {N:Net} {most:Int} {l:List Rc} (e:TrS.Right ⟨N,L,most,[]⟩) (a: ∀(j:Nat) (s:Sc),L[j]?=some s->s.off<(N.offs.length:Int)) (f:r.length<=300) (hs:mK l) (hm: ∀x,x∈l↔x∈r/\Val L x):(TrS.adds ⟨N,L,most,[]⟩ r).recs=l:=by
 obtain ⟨_,d,_⟩:=nS ⟨N,L,most,[]⟩ .nil r;refine BO d hs λx=> ?_;rw [CO ZO,hm];constructor
 .rintro (h|⟨c,_,b⟩)
  .cases h
  .exact ⟨c,b.1⟩
 .rintro ⟨c,b⟩;exact .inr ⟨c,e,b,a _ _ b.sc.1⟩
theorem KU (h:jC d l≠0):iU d l= []:=by
 unfold jC at h;unfold iU
 split at h
 .rename_i c
  split at h
  .rename_i b;rw [if_pos ⟨c,b⟩]
   cases e:jk d l with
   | none=>rfl
   | some a=>rw [e] at h; exact absurd rfl h
  .rename_i b;rw [if_neg λq=>b q.2]
 .rename_i c;rw [if_neg λq=>c q.1]
theorem Lb {S:TrS} (a:S.Right):S.qE s=bU (dV S.N) (bO S.L S.recs s) S.most/\S.xE s=jC (dV S.N) (bO S.L S.recs s)/\S.xR s=(iU (dV S.N) (bO S.L S.recs s)).map (recAt S.recs):=by
 have e:S.xE s=jC (dV S.N) (bO S.L S.recs s):=if_pos (aD a);refine ⟨if_pos (aD a),e,?_⟩;unfold TrS.xR
 split
 .rfl
 .rename_i h;rw [KU (e ▸ h)];rfl
theorem Kq {nv:NV} {N:Net} {sv rv:Value} {most:Int} (hN:iA w nv N) (hL:SS w sv L) (hr:SR w rv r) (hm:fF most) (ht:Tabs w) (hi:TabI w) :
  Gives prog 8 #[.agg nv.cells.toArray,sv,ZU most,rv,.string s,ZU t] w (ZS w (.bool true)):=by
 refine gw func8 ntmps8 ?_;refine nw rfl λg7 w7 f7=> ?_;refine cv rfl (Tu (ht.below f7.below) (hi.below f7.below)) λw1 b1=> ?_;have b01:=f7.below.step b1;have B7:=f7.blk.next b1;refine cr rfl (SH (bA hN b01) (hL.step kL b01) (hr.step jZ b01) λk hk=>hk) λu w4 b4 e=> ?_;obtain ⟨b,rfl,hb⟩:=e;have b04:=b01.step b4;have B7:=B7.next b4;have hN4:=bA hN b04
 cases b with
 | false =>
  have hG: ¬aF (some !true):=by simp [aF]
  refine rn ?_;refine cT rfl ?_
  exact aO rfl ⟨b04,rfl⟩
 | true =>
  obtain ⟨hf,_,_,hl30,hr30⟩:=hb rfl;refine dD ?_;refine rn ?_;refine dD ?_;refine aP rfl rfl ?_;refine cv rfl (BX hN4 hf.few) λw5 b5=> ?_;have b0:=b04.step b5;have B7:=B7.next b5;have hN5:=bA hN b0;have hL5:=hL.step kL b0;have hr5:=hr.step jZ b0;have ht5:=ht.below b0;have hi5:=hi.below b0;clear hN4 b1 b01 b4 b5 b04 f7;refine rn ?_;refine iG rfl (λh=> ?_) λh=> ?_
  .exact aO rfl ⟨b0,rfl⟩
  simp only [Bool.or_eq_false_iff,Bool.not_eq_false',dec_iff,decide_eq_false_iff_not] at h;obtain ⟨⟨⟨⟨_,hsnd⟩,h0⟩,h3⟩,h24⟩:=h;have hRt:TrS.Right ⟨N,L,most,[]⟩:=⟨hsnd,by show L.length<=24; omega,by show 0<=most; omega,by show most<=3; omega⟩;obtain ⟨Lq,Lcap,rfl,_⟩:=hL5.form;have hmaxL:=hL5.len.2.2;obtain ⟨_,_,_,⟨A4,c4,e4⟩,_⟩:=NetIn.form hN5;refine rn ?_;refine ze w5 [1,2,3,4,5,6,13] 14 L.length (λ_:Unit=> []) (λi _ _=> ∀(j:Nat) (s:Sc),j<i->L[j]?=some s->s.off<(N.offs.length:Int)) () (λj s h=>ZJ) (λi _ W hi hW hJ=> ?_) λ_ W hW hJ=> ?_
  .have hz:=ZD hi;obtain ⟨ad,rfl⟩:=hL5.addr ZJ;have hsc:=SS.get (hL5.below hW) hz;have B7W:=B7.next hW;refine rn ?_;refine dx ?_;rw [e4];refine rd ?_;refine dz λW2 b2=> ?_;refine cd rfl (λh=> ?_) λh=> ?_
   .exact aO rfl ⟨b0.step (hW.step b2),rfl⟩
   refine rn ?_;refine qz () λj s' hj hs'=> ?_;rcases ZI j i with q|q
   .exact hJ j s' q hs'
   .obtain rfl:j=i:=ZJ;rw [hz] at hs';cases hs';omega
  .have hoff: ∀(j:Nat) (s:Sc),L[j]?=some s->s.off<(N.offs.length:Int):=λj s h=>hJ j s (ZE h).1 h;have bW:=b0.step hW;have B7:=B7.next hW;have htW:=ht5.below hW;have hiW:=hi5.below hW;have hNW:=bA hN5 hW;have hLW:=hL5.step kL hW;have hrW:=hr5.step jZ hW;clear hN5 hL5 hr5 ht5 hi5 b0 hW hJ;refine cr rfl (Nk (F0:=λk=>k<W.heap.size) htW hNW (λk hk=>hk) hLW hrW hm hf.few ZJ) λu w6 b6 e=> ?_;obtain ⟨pa,ra,rfl,Ta,Ra⟩:=e;refine rn ?_;refine na IR λg17 w17 f17=> ?_;refine sb rfl f17.blk (λw8 B17 hb8 hs8=> ?_) (h1:=Ra.one) (imp:=λ_ _ _ _ h=>h.q);have y17:=f17.at_;have z6:=b6.size;have z17:=f17.size;have b8:ZT W w8:=But.below (b6.step f17.below) hb8 ZJ;obtain ⟨S,hS⟩: ∃S:TrS,S=TrS.adds ⟨N,L,most,[]⟩ r:=⟨_,rfl⟩;rw [<-hS] at Ta Ra;have Ta:=Ta.kept (w':=w8) ZJ λk hk=>(hb8.block k (by have:=Ta.facts.2.1 k hk; omega) λe=>by have:=Ta.facts.2.1 k hk; cases e; omega).trans (f17.below.block k (Ta.facts.2.1 k hk));have Ra:=Ra.below (But.below f17.below hb8 ZJ);obtain ⟨⟨a1,a2,a3⟩,a4,a5⟩:=nS ⟨N,L,most,[]⟩ .nil r;rw [<-hS] at a1 a2 a3 a4 a5;have z8:w6.heap.size<=w8.heap.size:=ZJ;clear f17 b6;refine rn ?_;have hli:=LA (lab:=s) Ra;rw [a3] at hli;refine cr rfl hli λu w9 b9 e=> ?_;obtain ⟨c1,rfl,hlt⟩:=e
   have Ta:=Ta.later b9;have bW9:=b8.step b9;have z9:=b9.size;clear B17 Ra b9 b8 hb8 hli;refine rn ?_;refine iG rfl (λh=> ?_) λh=> ?_
   .exact aO rfl ⟨bW.step bW9,rfl⟩
   obtain ⟨_,_,_,_,hr31,_,h7,h7r⟩:=hlt (by cases c1<;>simp_all);refine rn ?_;refine cr rfl (Mt (hLW.step kL bW9) (hrW.step jZ bW9) ZJ) λall w10 b10 e=> ?_;obtain ⟨l,hls,hlm,hla⟩:=e;have hSl:S.recs=l:=by rw [hS]; exact JE hRt hoff ZJ hls hlm
   rw [<-hSl] at hla;have bW10:=bW9.step b10;refine cr rfl (NC (htW.below bW10) (bA hNW bW10) hsnd.cons) λdv w11 b11 hd=> ?_;have bW11:=bW10.step b11;have hla:=hla.below b11;refine cr rfl (Dy (hLW.step kL bW11) (hla.now jZ) ZJ (hiW.below bW11)) λev w12 b12 he=> ?_;have hd0:=hd;have hd:=(hd.below b12).now (iQ fV);have hen: ∀e∈bO L S.recs s,e.needs.length<=1000:=λe he=>by have:=jL e he; omega
   refine cr rfl (vZ hd (he.now pW) hen) λx w13 b13 e=> ?_;obtain ⟨wv,rfl,hwv⟩:=e;refine rn ?_;refine cr rfl (wh (hd.step (iQ fV) b13) ((he.below b13).now pW) hen) λx w14 b14 e=> ?_;obtain ⟨tv,rfl,htv⟩:=e;have b1014:=((b11.step b12).step b13).step b14;have bW14:=bW10.step b1014;have z10:=b10.size;have z11:=b11.size;have z12:=b12.size;have z13:=b13.size;have z14:=b14.size;have hR:S.Right:=right_iff.2 (by rw [a1,a2,a3]; exact right_iff.1 hRt);obtain ⟨t1,t2,t3⟩:=Lb (s:=s) hR;rw [a1,a2,a3] at t1;rw [a1,a2] at t2 t3;have Ta:=Ta.later (b10.step b1014);have low: ∀k,w9.heap.size<=k-> ¬(W.heap.size<=k/\k<w6.heap.size):=λk hk q=>ZJ;have la:SL rcT (λk=>w9.heap.size<=k) w14 all S.recs:=(((hla.below b12).below b13).below b14).wider λk hk=>hk.1;have ld:SL (sliceT aS) (λk=>w9.heap.size<=k) w14 dv (dV N):=(((hd0.below b12).below b13).below b14).wider λk hk=>ZJ;have le:SL evT (λk=>w9.heap.size<=k) w14 ev (bO L S.recs s):=((he.below b13).below b14).wider λk hk=>ZJ;have lw:SL (sliceT aS) (λk=>w9.heap.size<=k) w14 wv (aQ (dV N) (bO L S.recs s) most):=(hwv.below b14).wider λk hk=>ZJ;have lt:SL aS (λk=>w9.heap.size<=k) w14 tv (iU (dV N) (bO L S.recs s)):=htv.wider λk hk=>ZJ;have lN:=bA hNW bW14
   clear hla hd hd0 he hwv htv b11 b12 b13 b14 b10 b1014 bW9 bW10 bW11;refine rn ?_;refine aN rfl (Dz (s:=s) (hiW.below bW14) Ta) ?_;rintro _ w15 ⟨c15,Ta,xv,vv,rfl,lx,lv⟩;have z15:=c15.size;have bW15:=bW14.trans (c15.below (B:=W.heap.size) (λk hk=>hk.1) bW14.size);have la:=c15.sl la low;have ld:=c15.sl ld low;have le:=c15.sl le low;have lw:=c15.sl lw low;have lt:=c15.sl lt low;have lx:SL evT (λk=>w9.heap.size<=k) w15 xv (S.qV s):=lx.wider λk hk=>ZJ;have lv:SL (sliceT aS) (λk=>w9.heap.size<=k) w15 vv (S.qW s):=lv.wider λk hk=>ZJ;clear c15 bW14 lN;refine rn ?_;refine aN rfl (G7 (s:=s) (t:=t) (hiW.below bW15) (htW.below bW15) Ta) ?_;rintro _ w16 ⟨c16,Ta,pv,rfl,lp⟩;have z16:=c16.size;have bW16:=bW15.trans (c16.below (B:=W.heap.size) (λk hk=>hk.1) bW15.size);have la:=c16.sl la low;have ld:=c16.sl ld low;have le:=c16.sl le low;have lw:=c16.sl lw low;have lt:=c16.sl lt low;have lx:=c16.sl lx low;have lv:=c16.sl lv low;have lp:SL sptT (λk=>w9.heap.size<=k) w16 pv (S.qP s t):=lp.wider λk hk=>ZJ;clear c16 bW15;refine rn ?_;refine aN rfl (zu (s:=s) (hiW.below bW16) Ta) ?_;rintro _ w17 ⟨c17,Ta,uv,rfl,lu⟩;have z17:=c17.size;have bW17:=bW16.trans (c17.below (B:=W.heap.size) (λk hk=>hk.1) bW16.size)
   have la:=c17.sl la low;have ld:=c17.sl ld low;have le:=c17.sl le low;have lw:=c17.sl lw low;have lt:=c17.sl lt low;have lx:=c17.sl lx low;have lv:=c17.sl lv low;have lp:=c17.sl lp low;have lu:SL rcT (λk=>w9.heap.size<=k) w17 uv (S.xR s):=lu.wider λk hk=>ZJ;clear c17 bW16;refine rn ?_;refine cr rfl (yX Ta) λrr w18 b18 lr=> ?_;refine cv rfl (aD (p:=S.recs=S.recs) rfl ▸ BZ lr (la.below b18)) λw19 b19=> ?_;obtain ⟨Z,hZ⟩: ∃Z,Z=iU (dV N) (bO L S.recs s):=⟨_,rfl⟩;rw [<-hZ] at lt t3;obtain ⟨Q1,q1,rfl,_⟩:=lu.form;obtain ⟨Q2,q2,rfl,_⟩:=lt.form;obtain ⟨Q3,q3,rfl,_⟩:=la.form;have hul:(S.xR s).length=Z.length:=by rw [t3,List.length_map]
   have hm1:=lu.len.2.2;have hm2:=lt.len.2.2;have hm3:=la.len.2.2;have b1719:=b18.step b19;have bW19:=bW17.step b1719;have la:=la.below b1719;have ld:=ld.below b1719;have le:=le.below b1719;have lw:=lw.below b1719;have lt:=lt.below b1719;have lx:=lx.below b1719;have lv:=lv.below b1719;have lp:=lp.below b1719;have lu:=lu.below b1719;clear lr b18 b19 b1719 bW17 Ta;refine rn ?_;refine iG rfl (λh=> ?_) λh=> ?_
   .have t1':S.qE s=bU (mU (eH (dZ N)) N.offs.length) (bO L S.recs s) most:=t1;have t2':S.xE s=jC (mU (eH (dZ N)) N.offs.length) (bO L S.recs s):=t2;rw [t1',t2',hul] at h;simp [hZ] at h
   have hin: ∀n∈Z,∃(j:Nat) (x:Rc),n=(j:Int)/\S.recs[j]?=some x:=λn hn=>by
    obtain ⟨e,he,hne⟩:=mem_recsS.1 (G6 n (hZ ▸ hn));obtain ⟨i,x,e1,e2,_⟩:=(mem_folL.1 (mem_canon.1 (List.mem_of_mem_take he))).facts.2.1 n hne;exact ⟨i,x,e1,e2⟩
   refine rn ?_;refine ze w19 [5,6,13,17,18,19,20,21,22,24,25,27,29] 31 Z.length (λ_:Unit=> []) (λ_ _ _=>True) () trivial (λk _ W2 hk hW2 _=> ?_) λ_ W2 hW2 _=> ?_
   .have hzk:=ZD hk;obtain ⟨j,x,ej,hx⟩:=hin _ (List.getElem_mem hk);have hjl:=(ZE hx).1;obtain ⟨au,rfl⟩:=lu.addr ZJ;obtain ⟨at_,rfl⟩:=lt.addr ZJ;obtain ⟨aa,rfl⟩:=la.addr ZJ;have czk:=SL.getI (lt.below hW2) hzk;have hxu:(S.xR s)[k]?=some x:=by
     rw [t3,List.getElem?_map,hzk,ej];exact congrArg some (LW hx)
    obtain ⟨yv,hyc,hyo⟩:=SR.get (lu.below hW2) hxu;obtain ⟨xv',hxc,hxo⟩:=SR.get (la.below hW2) hx;rw [<-ej] at hxc;refine rn ?_;refine dx ?_;refine dc (cap:= []) ZK rfl (λ_ w' hb=>lX (hyo.below hb) (hxo.below hb)) ?_;refine dz λW3 b3=> ?_;refine iG rfl (λh=> ?_) λh=> ?_
    .exfalso;rw [cmpR_eq.2 rfl,ej] at h;simp at h;omega
    refine rn ?_;refine qz () trivial
   .have bW:=bW.step (bW19.step hW2);have la:=la.below hW2;have ld:=ld.below hW2;have le:=le.below hW2;have lw:=lw.below hW2;have lx:=lx.below hW2;have lv:=lv.below hW2;have lp:=lp.below hW2;have lN:=bA hNW (bW19.step hW2);have ltb:=htW.below (bW19.step hW2);have B7:=B7.next (bW19.step hW2);refine rn ?_;refine cd rfl (λh=> ?_) λh=> ?_
    .have hq: ¬S.qE s=0:=by rw [t1]; exact h
     have e1:S.qV s= []:=if_neg hq;have e2:S.qW s= []:=if_neg hq;have e3:S.qP s t= []:=if_neg hq;refine aO rfl ⟨bW,?_⟩;rw [e1,e2,e3];rfl
    .have hq:S.qE s=0:=by rw [t1]; exact Classical.not_not.1 h
     have e1:S.qV s=bO L S.recs s:=(if_pos hq).trans (by show bO S.L S.recs s=_; rw [a2]);have e2:S.qW s=aQ (dV N) (bO L S.recs s) most:=(if_pos hq).trans (by show aQ (dV S.N) (bO S.L S.recs s) S.most=_; rw [a1,a2,a3]);have e3:S.qP s t=ll N (dV N) (bO L S.recs s) (aQ (dV N) (bO L S.recs s) most) t:=(if_pos hq).trans (by show ll S.N (dV S.N) (bO S.L S.recs s) (aQ (dV S.N) (bO S.L S.recs s) S.most) t=_; rw [a1,a2,a3]);rw [e1] at lx;rw [e2] at lv;rw [e3] at lp;have hne: ∀e∈bO L S.recs s,e.needs.length<=1000000:=λe he=>by have:=jL e he; omega
     refine dD ?_;refine aP rfl rfl ?_;refine cv rfl (aD (p:=bO L S.recs s=bO L S.recs s) rfl ▸ Je lx le hne hne) λw20 b20=> ?_;refine dD ?_;refine aP rfl rfl ?_;refine cv rfl (decide_eq_true (p:=aQ (dV N) (bO L S.recs s) most=aQ (dV N) (bO L S.recs s) most) rfl ▸ Ho (lv.below b20) (lw.below b20)) λw21 b21=> ?_;have b2:=b20.step b21;refine dD ?_;refine aP rfl rfl ?_;refine cr rfl (wK (ltb.below b2) (bA lN b2) ((ld.below b2).now (iQ fV)) ((le.below b2).now pW) ((lw.below b2).now (iQ fV)) hne) λov w22 b22 ho=> ?_;refine dD ?_;refine aP rfl rfl ?_;refine cv rfl (decide_eq_true (p:=ll N (dV N) (bO L S.recs s) (aQ (dV N) (bO L S.recs s) most) t=ll N (dV N) (bO L S.recs s) (aQ (dV N) (bO L S.recs s) most) t) rfl ▸ Aa (lp.below (b2.step b22)) ho) λw23 b23=> ?_;exact aO rfl ⟨bW.step (b2.step (b22.step b23)),rfl⟩
end Go.Proofs.YtoleahhfkpkcjaaGreatDoor
namespace Go.PF
open Go.RowKit
section
open Go.ChangeShapes Go.WideShapes Go.ChangeAt
section
variable {H:Type} {enc:TypeId×Value->H} {P:Program}
def Opens {α:Type} (P:Program) (t:TypeId) (T:Ty α):Prop :=
 ∀ {H:Type} (enc:TypeId×Value->H) (w:World) (base:Nat) (spare:Nat->Bool) (held:Bool) (fuel:Nat) (cs:List Value) (x:DataW H×List MemPlace),DataW.trod enc P w base spare held fuel t cs=some x-> ∃a,T.rep (λ_=>True) w cs a
theorem Opens.slice {t:TypeId} (N:P.underlying t=some (.slice e)) (hn:P.cellsOf e=T.n) (h:Opens P e T):Opens P t (sliceT T):=by
 intro H p w k f l C O x I;rcases Go.Deep.open_slice N I with ⟨rfl,_⟩|⟨a,c,q,m,n,D,R,rfl,_,S,U,r,_,J⟩
 .exact ⟨[],_,rfl,SL.nil _ _ _⟩
 .have K:c<=m:=by rw [r]; split<;>omega
  have g: ∀i,i<c-> ∃y b,T.rep (λ_=>True) w b y/\ ∀j u,b[j]?=some u->w.cell? ((a.add (i*T.n)).add j)=some u:=by
   intro i d;obtain ⟨b,E,s⟩:=J i ZJ;obtain ⟨y,o⟩:=h p w k f l n b _ s;rw [hn] at E;obtain ⟨_,v,z⟩:=World.cells?_some E;refine ⟨y,b,o,λj u F=> ?_⟩;have A:j<T.n:=by rw [<-v]; exact (ZE F).1
   rw [z j A,F]
  let L:List α:=(List.range c).attach.map λi=>Classical.choose (g i.1 (List.mem_range.1 i.2))
  have B:L.length=c:=by simp [L]
  refine ⟨L,_,rfl,some a,q,by rw [B],ZJ,by rw [B]; have:maxLen=9223372036854775807:=rfl; omega,?_⟩;intro i y o;have d:i<c:=by rw [<-B]; exact (ZE o).1
  have e:y=Classical.choose (g i d):=by
   simp [L,d] at o;exact o.symm
  obtain ⟨b,G,M⟩:=Classical.choose_spec (g i d);rw [<-e] at G;exact ⟨a,b,rfl,trivial,M,G⟩
theorem Opens.arg {t:TypeId} {b0:Nat} {d:DataW H} {ps:List MemPlace} (h:Opens P t (sliceT T)) (m:P.underlying t=some (.slice e)) (c:Value.okWide P W .any b0 t v) (n:DataW.Trod enc P W 0 (λ_=>true) true t v d ps) :
  ∃ l,SL T (λ_=>True) W v l:=by
 obtain ⟨f,g⟩:=n;obtain ⟨l,o,b,i⟩:=h enc W _ _ _ _ _ _ g;obtain ⟨a,j,k,rfl⟩:=okWide_slice m c;simp [Value.cells] at b;subst b;exact ⟨l,i⟩
theorem Opens.argS {t:TypeId} {fs:Array Field} {b0:Nat} {d:DataW H} {ps:List MemPlace} (h:Opens P t T) (i:P.underlying t=some (.struct fs)) (b:Value.okWide P W .any b0 t v) (j:DataW.Trod enc P W 0 (λ_=>true) true t v d ps) :
  ∃ a c,v= .agg c.toArray/\T.rep (λ_=>True) W c a:=by
 obtain ⟨e,f⟩:=j;obtain ⟨a,g⟩:=h enc W _ _ _ _ _ _ f;obtain ⟨c,rfl,_⟩:=okWide_struct i b;exact ⟨a,c.toList,ZM,by simpa [Value.cells] using g⟩
theorem yP (hl:laidOutB P=true) {W W':World} {sp:Nat->Bool}: ∀(c:List TypeId) (e:List Value) (f:List (DataW H)) (b:List MemPlace),(c.all λt=>P.readableRec t&&Nat.blt t P.types.size)=true->DataW.TrodAll enc P W 0 (λ_=>true) true c e f b ->
  (∀p∈b,W.sameAt W' p)->(∀p∈b,sp p.block=true)->DataW.TrodAll enc P W' 0 sp true c e f b
 | [],[],[],b,_,h,_,_=>h
 | t::c,v::e,d::f,b,g,h,i,j=>by
  obtain ⟨p,q,k,l,rfl⟩:=h;simp only [List.all_cons,Bool.and_eq_true] at g;refine ⟨p,q,WideElems.Trod_stays hl g.1.1 (blt_iff.1 g.1.2) k (λx a=>i x (List.mem_append.2 (.inl a))) (λx a=>j x (List.mem_append.2 (.inl a))),?_,rfl⟩
  exact yP hl c e f q g.2 l (λx a=>i x (List.mem_append.2 (.inr a))) (λx a=>j x (List.mem_append.2 (.inr a)))
 | [],[],_::_,_,_,h,_,_=>h.elim
 | [],_::_,_,_,_,h,_,_=>h.elim
 | _::_,[],_,_,_,h,_,_=>h.elim
 | _::_,_::_,[],_,_,h,_,_=>h.elim
theorem MH {f:Func} {s:ChangeSpec} {apart fresh handsOn:Bool} {W':World} {ds gs:List (DataW H)} {before:List MemPlace} {tb:TypeId} (hl:laidOutB P=true) (j:DataW.Whole enc P f.params.toList s.vars apart W args.toList ds gs before) (a:s.vars= [])
  (e:(f.params.toList.all λt=>P.readableRec t&&Nat.blt t P.types.size)=true) (k:f.resultTypes= #[tb]) (l:P.underlying tb=some .bool) (m:(s.fn H (ds++gs)).results= [.lit (.bool true)]) (n:(s.fn H (ds++gs)).args=ds) (o:(s.fn H (ds++gs)).vars= [])
  (hb:ZT W W'):s.post enc P f apart fresh handsOn false W args (.bool true) W':=by
 have c:=λp r=>j.lt p r;obtain ⟨p,q,u,i,d,w,y⟩:=id j;rw [a] at i;have v:q= []:=by
  cases gs with
  | nil=>exact i
  | cons g gs=>exact i.elim
 subst v;rw [List.append_nil] at d;subst d;refine ⟨ds,gs,before,[],before,[],j,?_,?_,?_,World.keptBut_mono (λx b=>⟨b,.inr (.inl b)⟩) (hb.frame (· ∈before)),λh=>by cases h⟩
 .rw [m,k];exact trodAll_mk1 ⟨1,by simp [DataW.trod,Value.cells,l]⟩
 .rw [n];exact yP hl _ _ _ _ e u (λx b=>hb.same (c x b)) (λx b=>by simpa using c x b)
 .rw [o,a]; rfl
theorem JL {f:Func} {k:FuncId} {s:ChangeSpec} {apart fresh handsOn:Bool} {ds gs:List (DataW H)} {before:List MemPlace} {tb:TypeId} (hl:laidOutB P=true) (o:DataW.Whole enc P f.params.toList s.vars apart W args.toList ds gs before) (a:s.vars= [])
  (b:(f.params.toList.all λt=>P.readableRec t&&Nat.blt t P.types.size)=true) (d:f.resultTypes= #[tb]) (g:P.underlying tb=some .bool) (i:(s.fn H (ds++gs)).results= [.lit (.bool true)]) (j:(s.fn H (ds++gs)).args=ds) (l:(s.fn H (ds++gs)).vars= [])
  (h:Gives P k args W λu c=>ZT W c/\u= .bool true):Calls P k args W λe c=> ∃v,e= .returned v/\s.post enc P f apart fresh handsOn false W args v c :=
 h.mono λu c ⟨m,n⟩=>by
  subst n;exact MH hl o a b d g i j l m
end
end
end Go.PF
