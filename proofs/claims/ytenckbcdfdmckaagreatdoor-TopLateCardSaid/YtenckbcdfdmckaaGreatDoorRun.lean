/-
  TopLate: its run, in parts. (Printed by runlaw.py.)
-/
import Derived.Test.YtenckbcdfdmckaaGreatDoorTopD
set_option linter.unusedSimpArgs false
set_option linter.unusedVariables false
namespace Go.Top
open Go Go.Eng
set_option maxRecDepth 100000
def I (n : Nat) : CT := .int .i64 (.ofNat n)
def J (n : Nat) : CV := .int .i64 (.ofNat n)
def ll0 : List (List CT) := [[I 2, I 0, .str 0 0, .str 0 0, I 0], [I 0, I 0, .str 0 0, .str 0 0, I 0], [I 0, I 0, .str 0 0, .str 0 0, I 0], [I 0, I 0, .str 0 0, .str 0 0, I 0], [I 0, I 0, .str 0 0, .str 0 0, I 0], [I 0, I 0, .str 0 0, .str 0 0, I 0], [I 0, I 0, .str 0 0, .str 0 0, I 0], [I 0, I 0, .str 0 0, .str 0 0, I 0]]
def ll1 : List (List CT) := [[I 0, I 0, .int .u32 (.ofNat 0), .int .u32 (.ofNat 0), .int .u32 (.ofNat 0), .int .u32 (.ofNat 0)], [I 0, I 0, .int .u32 (.ofNat 0), .int .u32 (.ofNat 0), .int .u32 (.ofNat 0), .int .u32 (.ofNat 0)], [I 0, I 0, .int .u32 (.ofNat 0), .int .u32 (.ofNat 0), .int .u32 (.ofNat 0), .int .u32 (.ofNat 0)], [I 0, I 0, .int .u32 (.ofNat 0), .int .u32 (.ofNat 0), .int .u32 (.ofNat 0), .int .u32 (.ofNat 0)]]
def lv2 : CV := .str 256 0x25d000100000002
def ll3 : List (List CT) := [[I 14, I 1, .int .u32 (.ofNat 0x25d0003), .int .u32 (.ofNat 0x94e300bf), .int .u32 (.ofNat 0x9c601820), .int .u32 (.ofNat 0x3c221020)], [I 0, I 0, .int .u32 (.ofNat 0), .int .u32 (.ofNat 0), .int .u32 (.ofNat 0), .int .u32 (.ofNat 0)], [I 0, I 0, .int .u32 (.ofNat 0), .int .u32 (.ofNat 0), .int .u32 (.ofNat 0), .int .u32 (.ofNat 0)], [I 0, I 0, .int .u32 (.ofNat 0), .int .u32 (.ofNat 0), .int .u32 (.ofNat 0), .int .u32 (.ofNat 0)], [I 0, I 0, .int .u32 (.ofNat 0), .int .u32 (.ofNat 0), .int .u32 (.ofNat 0), .int .u32 (.ofNat 0)], [I 0, I 0, .int .u32 (.ofNat 0), .int .u32 (.ofNat 0), .int .u32 (.ofNat 0), .int .u32 (.ofNat 0)], [I 0, I 0, .int .u32 (.ofNat 0), .int .u32 (.ofNat 0), .int .u32 (.ofNat 0), .int .u32 (.ofNat 0)], [I 0, I 0, .int .u32 (.ofNat 0), .int .u32 (.ofNat 0), .int .u32 (.ofNat 0), .int .u32 (.ofNat 0)]]
def lv4 : CV := .str 176 0x2010223c2018609cbf00e39403005d02010000000e00
def lv5 : CV := .str 256 0x2010223c2018609cbf00e39403005d02010000000e00b0000100000003
def ll6 : List (List CT) := [[I 15, I 1, .int .u32 (.ofNat 0x2a736f15), .int .u32 (.ofNat 0xbcd5f5b9), .int .u32 (.ofNat 0xd4a6cef9), .int .u32 (.ofNat 0xbd451ebd)]]
def lv7 : CV := .str 22 0xbd1e45bdf9cea6d4b9f5d5bc156f732a010000000f00
def lv8 : CV := .str 29 0xbd1e45bdf9cea6d4b9f5d5bc156f732a010000000f0000000001010001
def lv9 : CV := .str 256 0xbd1e45bdf9cea6d4b9f5d5bc156f732a010000000f00000000010100011d000100000004
def lv10 : CV := .str 256 0x1f20000100000005
def ll11 : List (List CT) := [[I 16, I 1, .int .u32 (.ofNat 0x9770367c), .int .u32 (.ofNat 0x25659d11), .int .u32 (.ofNat 0xe1c08a78), .int .u32 (.ofNat 0x9021ca78)], [I 17, I 1, .int .u32 (.ofNat 0x1f200006), .int .u32 (.ofNat 0xa8e0017f), .int .u32 (.ofNat 0x1c003080), .int .u32 (.ofNat 0xb4042860)], [I 0, I 0, .int .u32 (.ofNat 0), .int .u32 (.ofNat 0), .int .u32 (.ofNat 0), .int .u32 (.ofNat 0)]]
def lv12 : CV := .str 66 0x602804b48030001c7f01e0a80600201f01000000110078ca2190788ac0e1119d65257c367097010000001000
def lv13 : CV := .str 82 0x602804b48030001c7f01e0a80600201f01000000110078ca2190788ac0e1119d65257c367097010000001000070000000200000001000000
def lv14 : CV := .str 256 0x602804b48030001c7f01e0a80600201f01000000110078ca2190788ac0e1119d65257c36709701000000100007000000020000000100000052000100000006
def ll15 : List (List CT) := [[I 18, I 1, .int .u32 (.ofNat 0xc18b8899), .int .u32 (.ofNat 0xcfba61f9), .int .u32 (.ofNat 0x751fce33), .int .u32 (.ofNat 0xde7fedc4)]]
def lv16 : CV := .str 22 0xc4ed7fde33ce1f75f961bacf99888bc1010000001200
def lv17 : CV := .str 256 0xe0bea2635ce2f7c0c229d1ef96e7a59ec4ed7fde33ce1f75f961bacf99888bc1010000001200010700000001000000ab
def ls18 : CT := .str 256 0xb7023c000b023c005f013c00b3003c003c0007000000ac
def ls19 : CT := .str 256 0xe0bea2635ce2f7c0c229d1ef96e7a59ec4ed7fde33ce1f75f961bacf99888bc1010000001200010700000001000000ab
def ls20 : CT := .str 256 0x25d000100000002
def ls21 : CT := .str 256 0x2010223c2018609cbf00e39403005d02010000000e00b0000100000003
def ls22 : CT := .str 256 0xbd1e45bdf9cea6d4b9f5d5bc156f732a010000000f00000000010100011d000100000004
def ls23 : CT := .str 256 0x1f20000100000005
def ls24 : CT := .str 256 0x602804b48030001c7f01e0a80600201f01000000110078ca2190788ac0e1119d65257c36709701000000100007000000020000000100000052000100000006
def ll25 : List (List CT) := [[ls18], [.str 256 0], [ls19], [.str 256 0], [.str 256 0], [.str 256 0], [.str 256 0], [ls18], [.str 256 0], [ls19], [.str 256 0], [.str 256 0], [.str 256 0], [.str 256 0], [ls20], [ls21], [ls22], [ls23], [ls24], [.str 256 0], [.str 256 0], [.str 256 0], [.str 256 0], [.str 256 0], [.str 256 0], [.str 256 0], [.str 256 0], [.str 256 0], [.str 256 0], [.str 256 0], [.str 256 0], [.str 256 0], [.str 256 0], [.str 256 0], [.str 256 0], [.str 256 0], [.str 256 0], [.str 256 0], [.str 256 0], [.str 256 0], [.str 256 0], [.str 256 0], [.str 256 0], [.str 256 0], [.str 256 0], [.str 256 0], [.str 256 0], [.str 256 0], [.str 256 0], [.str 256 0], [.str 256 0], [.str 256 0], [.str 256 0], [.str 256 0], [.str 256 0], [.str 256 0], [.str 256 0], [.str 256 0], [.str 256 0], [.str 256 0], [.str 256 0], [.str 256 0], [.str 256 0], [.str 256 0], [.str 256 0], [.str 256 0], [.str 256 0], [.str 256 0], [.str 256 0], [.str 256 0], [.str 256 0], [.str 256 0], [.str 256 0], [.str 256 0], [ls18], [.str 256 0], [ls19], [.str 256 0], [.str 256 0], [.str 256 0], [.str 256 0], [ls18], [.str 256 0], [ls19], [.str 256 0], [.str 256 0], [.str 256 0], [.str 256 0]]
def ll26 : List (List CT) := [[I 2, I 0, .str 0 0, .str 0 0, I 0], [I 1, I 0, .str 1 97, .str 0 0, I 0], [I 0, I 0, .str 0 0, .str 0 0, I 0], [I 0, I 0, .str 0 0, .str 0 0, I 0], [I 0, I 0, .str 0 0, .str 0 0, I 0], [I 0, I 0, .str 0 0, .str 0 0, I 0], [I 0, I 0, .str 0 0, .str 0 0, I 0], [I 0, I 0, .str 0 0, .str 0 0, I 0]]
def ll27 : List (List CT) := [[I 2, I 0, .str 0 0, .str 0 0, I 0], [I 1, I 0, .str 1 97, .str 2 26984, I 0], [I 0, I 0, .str 0 0, .str 0 0, I 0], [I 0, I 0, .str 0 0, .str 0 0, I 0], [I 0, I 0, .str 0 0, .str 0 0, I 0], [I 0, I 0, .str 0 0, .str 0 0, I 0], [I 0, I 0, .str 0 0, .str 0 0, I 0], [I 0, I 0, .str 0 0, .str 0 0, I 0]]
def lv28 : CV := .str 70 0x602804b48030001c7f01e0a80600201f01000000110078ca2190788ac0e1119d65257c367097010000001000
def lv29 : CV := .str 256 0x696820000200000001
def ll30 : List (List CT) := [[I 19, I 2, .int .u32 (.ofNat 0x6820006c), .int .u32 (.ofNat 0x9fe01a2c), .int .u32 (.ofNat 0xfc0338e9), .int .u32 (.ofNat 0x5444c8c0)], [I 0, I 0, .int .u32 (.ofNat 0), .int .u32 (.ofNat 0), .int .u32 (.ofNat 0), .int .u32 (.ofNat 0)], [I 0, I 0, .int .u32 (.ofNat 0), .int .u32 (.ofNat 0), .int .u32 (.ofNat 0), .int .u32 (.ofNat 0)], [I 0, I 0, .int .u32 (.ofNat 0), .int .u32 (.ofNat 0), .int .u32 (.ofNat 0), .int .u32 (.ofNat 0)]]
def lv31 : CV := .str 88 0xc0c84454e93803fc2c1ae09f6c002068020000001300
def lv32 : CV := .str 94 0xc0c84454e93803fc2c1ae09f6c002068020000001300020061010001
def lv33 : CV := .str 256 0xc0c84454e93803fc2c1ae09f6c0020680200000013000200610100015e000200000002
def ll34 : List (List CT) := [[I 14, I 1, .int .u32 (.ofNat 0x25d0003), .int .u32 (.ofNat 0x94e300bf), .int .u32 (.ofNat 0x9c601820), .int .u32 (.ofNat 0x3c221020)], [I 20, I 2, .int .u32 (.ofNat 0x5b161c4d), .int .u32 (.ofNat 0xc49aa523), .int .u32 (.ofNat 0x56357f75), .int .u32 (.ofNat 0x4635cb55)], [I 0, I 0, .int .u32 (.ofNat 0), .int .u32 (.ofNat 0), .int .u32 (.ofNat 0), .int .u32 (.ofNat 0)], [I 0, I 0, .int .u32 (.ofNat 0), .int .u32 (.ofNat 0), .int .u32 (.ofNat 0), .int .u32 (.ofNat 0)], [I 0, I 0, .int .u32 (.ofNat 0), .int .u32 (.ofNat 0), .int .u32 (.ofNat 0), .int .u32 (.ofNat 0)], [I 0, I 0, .int .u32 (.ofNat 0), .int .u32 (.ofNat 0), .int .u32 (.ofNat 0), .int .u32 (.ofNat 0)], [I 0, I 0, .int .u32 (.ofNat 0), .int .u32 (.ofNat 0), .int .u32 (.ofNat 0), .int .u32 (.ofNat 0)], [I 0, I 0, .int .u32 (.ofNat 0), .int .u32 (.ofNat 0), .int .u32 (.ofNat 0), .int .u32 (.ofNat 0)]]
def lv35 : CV := .str 176 0x55cb3546757f355623a59ac44d1c165b0200000014002010223c2018609cbf00e39403005d02010000000e00
def lv36 : CV := .str 256 0x55cb3546757f355623a59ac44d1c165b0200000014002010223c2018609cbf00e39403005d02010000000e00b0000200000003
def ll37 : List (List CT) := [[I 21, I 2, .int .u32 (.ofNat 0xe6c57b30), .int .u32 (.ofNat 0xa99089eb), .int .u32 (.ofNat 0xeb814e10), .int .u32 (.ofNat 0xf7238ee0)]]
def lv38 : CV := .str 22 0xe08e23f7104e81ebeb8990a9307bc5e6020000001500
def lv39 : CV := .str 29 0xe08e23f7104e81ebeb8990a9307bc5e602000000150000000001010001
def lv40 : CV := .str 256 0xe08e23f7104e81ebeb8990a9307bc5e6020000001500000000010100011d000200000004
def lv41 : CV := .str 32 0x1e00000000000007e1
def lv42 : CV := .str 256 0x1e00000000000007e120000200000005
def ll43 : List (List CT) := [[I 22, I 2, .int .u32 (.ofNat 0x24fffd77), .int .u32 (.ofNat 0x9a56d25), .int .u32 (.ofNat 0xec520d4e), .int .u32 (.ofNat 0x19c28e07)], [I 23, I 2, .int .u32 (.ofNat 0xff20000e), .int .u32 (.ofNat 0x8ce00370), .int .u32 (.ofNat 0x76006dc7), .int .u32 (.ofNat 0x96094640)], [I 0, I 0, .int .u32 (.ofNat 0), .int .u32 (.ofNat 0), .int .u32 (.ofNat 0), .int .u32 (.ofNat 0)]]
def lv44 : CV := .str 66 0x40460996c76d00767003e08c0e0020ff020000001700078ec2194e0d52ec256da50977fdff24020000001600
def lv45 : CV := .str 82 0x40460996c76d00767003e08c0e0020ff020000001700078ec2194e0d52ec256da50977fdff24020000001600070000000200000002000000
def lv46 : CV := .str 256 0x40460996c76d00767003e08c0e0020ff020000001700078ec2194e0d52ec256da50977fdff2402000000160007000000020000000200000052000200000006
def ll47 : List (List CT) := [[I 24, I 2, .int .u32 (.ofNat 0xa0b4ea1a), .int .u32 (.ofNat 0xfcd9e230), .int .u32 (.ofNat 0xc147f66d), .int .u32 (.ofNat 0xa0816dc0)]]
def lv48 : CV := .str 22 0xc06d81a06df647c130e2d9fc1aeab4a0020000001800
def lv49 : CV := .str 256 0x54037a01e2c5cc522683ad34b15a3194c06d81a06df647c130e2d9fc1aeab4a0020000001800020700000002000000ab
def ls50 : CT := .str 256 0x54037a01e2c5cc522683ad34b15a3194c06d81a06df647c130e2d9fc1aeab4a0020000001800020700000002000000ab
def ls51 : CT := .str 256 0x696820000200000001
def ls52 : CT := .str 256 0xc0c84454e93803fc2c1ae09f6c0020680200000013000200610100015e000200000002
def ls53 : CT := .str 256 0x55cb3546757f355623a59ac44d1c165b0200000014002010223c2018609cbf00e39403005d02010000000e00b0000200000003
def ls54 : CT := .str 256 0xe08e23f7104e81ebeb8990a9307bc5e6020000001500000000010100011d000200000004
def ls55 : CT := .str 256 0x1e00000000000007e120000200000005
def ls56 : CT := .str 256 0x40460996c76d00767003e08c0e0020ff020000001700078ec2194e0d52ec256da50977fdff2402000000160007000000020000000200000052000200000006
def ll57 : List (List CT) := [[ls18], [.str 256 0], [ls19], [ls50], [.str 256 0], [.str 256 0], [.str 256 0], [ls18], [.str 256 0], [ls19], [ls50], [.str 256 0], [.str 256 0], [.str 256 0], [ls20], [ls21], [ls22], [ls23], [ls24], [ls51], [ls52], [ls53], [ls54], [ls55], [ls56], [.str 256 0], [.str 256 0], [.str 256 0], [.str 256 0], [.str 256 0], [.str 256 0], [.str 256 0], [.str 256 0], [.str 256 0], [.str 256 0], [.str 256 0], [.str 256 0], [.str 256 0], [.str 256 0], [.str 256 0], [.str 256 0], [.str 256 0], [.str 256 0], [.str 256 0], [.str 256 0], [.str 256 0], [.str 256 0], [.str 256 0], [.str 256 0], [.str 256 0], [.str 256 0], [.str 256 0], [.str 256 0], [.str 256 0], [.str 256 0], [.str 256 0], [.str 256 0], [.str 256 0], [.str 256 0], [.str 256 0], [.str 256 0], [.str 256 0], [.str 256 0], [.str 256 0], [.str 256 0], [.str 256 0], [.str 256 0], [.str 256 0], [.str 256 0], [.str 256 0], [.str 256 0], [.str 256 0], [.str 256 0], [.str 256 0], [ls18], [.str 256 0], [ls19], [ls50], [.str 256 0], [.str 256 0], [.str 256 0], [ls18], [.str 256 0], [ls19], [ls50], [.str 256 0], [.str 256 0], [.str 256 0]]
def ll58 : List (List CT) := [[I 0, I 0, .int .u32 (.ofNat 0), .int .u32 (.ofNat 0), .int .u32 (.ofNat 0), .int .u32 (.ofNat 0)]]
def lv59 : CV := .str 246 0xe0bea2635ce2f7c0c229d1ef96e7a59ec4ed7fde33ce1f75f961bacf99888bc1010000001200
def lv60 : CV := .str 224 0xe0bea2635ce2f7c0c229d1ef96e7a59e
def lv61 : CV := .str 246 0x54037a01e2c5cc522683ad34b15a3194c06d81a06df647c130e2d9fc1aeab4a0020000001800
def lv62 : CV := .str 224 0x54037a01e2c5cc522683ad34b15a3194
def lv63 : CV := .str 70 0x40460996c76d00767003e08c0e0020ff020000001700078ec2194e0d52ec256da50977fdff24020000001600
def lv64 : CV := .str 256 0x610100015e000200000002
def ll65 : List (List CT) := [[I 14, I 1, .int .u32 (.ofNat 0x25d0003), .int .u32 (.ofNat 0x94e300bf), .int .u32 (.ofNat 0x9c601820), .int .u32 (.ofNat 0x3c221020)], [I 19, I 2, .int .u32 (.ofNat 0x1bf0104), .int .u32 (.ofNat 0x6da03efe), .int .u32 (.ofNat 0xa848c100), .int .u32 (.ofNat 0xf2257ac0)], [I 0, I 0, .int .u32 (.ofNat 0), .int .u32 (.ofNat 0), .int .u32 (.ofNat 0), .int .u32 (.ofNat 0)], [I 0, I 0, .int .u32 (.ofNat 0), .int .u32 (.ofNat 0), .int .u32 (.ofNat 0), .int .u32 (.ofNat 0)], [I 0, I 0, .int .u32 (.ofNat 0), .int .u32 (.ofNat 0), .int .u32 (.ofNat 0), .int .u32 (.ofNat 0)], [I 0, I 0, .int .u32 (.ofNat 0), .int .u32 (.ofNat 0), .int .u32 (.ofNat 0), .int .u32 (.ofNat 0)], [I 0, I 0, .int .u32 (.ofNat 0), .int .u32 (.ofNat 0), .int .u32 (.ofNat 0), .int .u32 (.ofNat 0)], [I 0, I 0, .int .u32 (.ofNat 0), .int .u32 (.ofNat 0), .int .u32 (.ofNat 0), .int .u32 (.ofNat 0)]]
def lv66 : CV := .str 176 0xc07a25f200c148a8fe3ea06d0401bf010200000013002010223c2018609cbf00e39403005d02010000000e00
def lv67 : CV := .str 256 0xc07a25f200c148a8fe3ea06d0401bf010200000013002010223c2018609cbf00e39403005d02010000000e00b0000200000003
def ll68 : List (List CT) := [[I 20, I 2, .int .u32 (.ofNat 0x344beae2), .int .u32 (.ofNat 0x4c3f5f2d), .int .u32 (.ofNat 0x7d038297), .int .u32 (.ofNat 0xff9baf9d)]]
def lv69 : CV := .str 22 0x9daf9bff9782037d2d5f3f4ce2ea4b34020000001400
def lv70 : CV := .str 29 0x9daf9bff9782037d2d5f3f4ce2ea4b3402000000140000000001010001
def lv71 : CV := .str 256 0x9daf9bff9782037d2d5f3f4ce2ea4b34020000001400000000010100011d000200000004
def lv72 : CV := .str 32 0x1e00000000000003e1
def lv73 : CV := .str 256 0x1e00000000000003e120000200000005
def ll74 : List (List CT) := [[I 21, I 2, .int .u32 (.ofNat 0x5c992b02), .int .u32 (.ofNat 0x5051d24f), .int .u32 (.ofNat 0x58dde3a1), .int .u32 (.ofNat 0x596fc3c9)], [I 22, I 2, .int .u32 (.ofNat 0xff20000a), .int .u32 (.ofNat 0x8ce00278), .int .u32 (.ofNat 0x76004f43), .int .u32 (.ofNat 0x9606bb40)], [I 0, I 0, .int .u32 (.ofNat 0), .int .u32 (.ofNat 0), .int .u32 (.ofNat 0), .int .u32 (.ofNat 0)]]
def lv75 : CV := .str 66 0x40bb0696434f00767802e08c0a0020ff020000001600c9c36f59a1e3dd584fd25150022b995c020000001500
def lv76 : CV := .str 82 0x40bb0696434f00767802e08c0a0020ff020000001600c9c36f59a1e3dd584fd25150022b995c020000001500070000000200000002000000
def lv77 : CV := .str 256 0x40bb0696434f00767802e08c0a0020ff020000001600c9c36f59a1e3dd584fd25150022b995c02000000150007000000020000000200000052000200000006
def ll78 : List (List CT) := [[I 23, I 2, .int .u32 (.ofNat 0x3db26be0), .int .u32 (.ofNat 0xe2814046), .int .u32 (.ofNat 0x7ee19c2d), .int .u32 (.ofNat 0xd66f4502)]]
def lv79 : CV := .str 22 0x2456fd62d9ce17e464081e2e06bb23d020000001700
def lv80 : CV := .str 256 0xbeb7a84dd558d4f5fc92ef4527888e6f02456fd62d9ce17e464081e2e06bb23d020000001700020700000002000000ab
def ls81 : CT := .str 256 0x610100015e000200000002
def ls82 : CT := .str 256 0xc07a25f200c148a8fe3ea06d0401bf010200000013002010223c2018609cbf00e39403005d02010000000e00b0000200000003
def ls83 : CT := .str 256 0x9daf9bff9782037d2d5f3f4ce2ea4b34020000001400000000010100011d000200000004
def ls84 : CT := .str 256 0x1e00000000000003e120000200000005
def ls85 : CT := .str 256 0x40bb0696434f00767802e08c0a0020ff020000001600c9c36f59a1e3dd584fd25150022b995c02000000150007000000020000000200000052000200000006
def ll86 : List (List CT) := [[ls18], [.str 256 0], [ls19], [.str 256 0], [.str 256 0], [.str 256 0], [.str 256 0], [ls18], [.str 256 0], [ls19], [.str 256 0], [.str 256 0], [.str 256 0], [.str 256 0], [ls20], [ls21], [ls22], [ls23], [ls24], [ls81], [ls82], [ls83], [ls84], [ls85], [.str 256 0], [.str 256 0], [.str 256 0], [.str 256 0], [.str 256 0], [.str 256 0], [.str 256 0], [.str 256 0], [.str 256 0], [.str 256 0], [.str 256 0], [.str 256 0], [.str 256 0], [.str 256 0], [.str 256 0], [.str 256 0], [.str 256 0], [.str 256 0], [.str 256 0], [.str 256 0], [.str 256 0], [.str 256 0], [.str 256 0], [.str 256 0], [.str 256 0], [.str 256 0], [.str 256 0], [.str 256 0], [.str 256 0], [.str 256 0], [.str 256 0], [.str 256 0], [.str 256 0], [.str 256 0], [.str 256 0], [.str 256 0], [.str 256 0], [.str 256 0], [.str 256 0], [.str 256 0], [.str 256 0], [.str 256 0], [.str 256 0], [.str 256 0], [.str 256 0], [.str 256 0], [.str 256 0], [.str 256 0], [.str 256 0], [.str 256 0], [ls18], [.str 256 0], [ls19], [.str 256 0], [.str 256 0], [.str 256 0], [.str 256 0], [ls18], [.str 256 0], [ls19], [.str 256 0], [.str 256 0], [.str 256 0], [.str 256 0]]
def ls87 : CT := .str 256 0xbeb7a84dd558d4f5fc92ef4527888e6f02456fd62d9ce17e464081e2e06bb23d020000001700020700000002000000ab
def ll88 : List (List CT) := [[ls18], [.str 256 0], [ls19], [ls87], [.str 256 0], [.str 256 0], [.str 256 0], [ls18], [.str 256 0], [ls19], [.str 256 0], [.str 256 0], [.str 256 0], [.str 256 0], [ls20], [ls21], [ls22], [ls23], [ls24], [ls81], [ls82], [ls83], [ls84], [ls85], [.str 256 0], [.str 256 0], [.str 256 0], [.str 256 0], [.str 256 0], [.str 256 0], [.str 256 0], [.str 256 0], [.str 256 0], [.str 256 0], [.str 256 0], [.str 256 0], [.str 256 0], [.str 256 0], [.str 256 0], [.str 256 0], [.str 256 0], [.str 256 0], [.str 256 0], [.str 256 0], [.str 256 0], [.str 256 0], [.str 256 0], [.str 256 0], [.str 256 0], [.str 256 0], [.str 256 0], [.str 256 0], [.str 256 0], [.str 256 0], [.str 256 0], [.str 256 0], [.str 256 0], [.str 256 0], [.str 256 0], [.str 256 0], [.str 256 0], [.str 256 0], [.str 256 0], [.str 256 0], [.str 256 0], [.str 256 0], [.str 256 0], [.str 256 0], [.str 256 0], [.str 256 0], [.str 256 0], [.str 256 0], [.str 256 0], [.str 256 0], [ls18], [.str 256 0], [ls19], [.str 256 0], [.str 256 0], [.str 256 0], [.str 256 0], [ls18], [.str 256 0], [ls19], [.str 256 0], [.str 256 0], [.str 256 0], [.str 256 0]]
def lv89 : CV := .str 246 0xbeb7a84dd558d4f5fc92ef4527888e6f02456fd62d9ce17e464081e2e06bb23d020000001700
def lv90 : CV := .str 224 0xbeb7a84dd558d4f5fc92ef4527888e6f
def lv91 : CV := .str 70 0x40bb0696434f00767802e08c0a0020ff020000001600c9c36f59a1e3dd584fd25150022b995c020000001500
def lv92 : CV := .str 256 0x9daf9bff9782037d2d5f3f4ce2ea4b34020000001400000000010100011d000300000004
def ll93 : List (List CT) := [[I 14, I 15], [I 19, I 21], [I 24, I 27]]
def ll94 : List (List CT) := [[I 15, I 19], [I 21, I 24], [I 27, I 74]]
def lv95 : CV := .str 32 0x1e00000000000003800000000000001c61
def lv96 : CV := .str 256 0x1e00000000000003800000000000001c6120000300000005
def ll97 : List (List CT) := [[I 24, I 3, .int .u32 (.ofNat 0x5c992b03), .int .u32 (.ofNat 0x5051d28e), .int .u32 (.ofNat 0x58ddeb81), .int .u32 (.ofNat 0x59706e69)], [I 25, I 3, .int .u32 (.ofNat 0xff200027), .int .u32 (.ofNat 0x50e00979), .int .u32 (.ofNat 0xc8012b4e), .int .u32 (.ofNat 0x81905d4)], [I 0, I 0, .int .u32 (.ofNat 0), .int .u32 (.ofNat 0), .int .u32 (.ofNat 0), .int .u32 (.ofNat 0)]]
def lv98 : CV := .str 66 0xd40519084e2b01c87909e050270020ff030000001900696e705981ebdd588ed25150032b995c030000001800
def lv99 : CV := .str 82 0xd40519084e2b01c87909e050270020ff030000001900696e705981ebdd588ed25150032b995c030000001800070000000200000003000000
def lv100 : CV := .str 256 0xd40519084e2b01c87909e050270020ff030000001900696e705981ebdd588ed25150032b995c03000000180007000000020000000300000052000300000006
def ll101 : List (List CT) := [[I 26, I 3, .int .u32 (.ofNat 0x797498b9), .int .u32 (.ofNat 0xef35bf26), .int .u32 (.ofNat 0x51d2d139), .int .u32 (.ofNat 0x5ac36f4)]]
def lv102 : CV := .str 22 0xf436ac0539d1d25126bf35efb9987479030000001a00
def lv103 : CV := .str 256 0xbf24e0f73f4b1c19efdb796d732c602bf436ac0539d1d25126bf35efb9987479030000001a00030700000003000000ab
def ls104 : CT := .str 256 0xbf24e0f73f4b1c19efdb796d732c602bf436ac0539d1d25126bf35efb9987479030000001a00030700000003000000ab
def ls105 : CT := .str 256 0x9daf9bff9782037d2d5f3f4ce2ea4b34020000001400000000010100011d000300000004
def ls106 : CT := .str 256 0x1e00000000000003800000000000001c6120000300000005
def ls107 : CT := .str 256 0xd40519084e2b01c87909e050270020ff030000001900696e705981ebdd588ed25150032b995c03000000180007000000020000000300000052000300000006
def ll108 : List (List CT) := [[ls18], [.str 256 0], [ls19], [ls87], [ls104], [.str 256 0], [.str 256 0], [ls18], [.str 256 0], [ls19], [.str 256 0], [ls104], [.str 256 0], [.str 256 0], [ls20], [ls21], [ls22], [ls23], [ls24], [ls81], [ls82], [ls83], [ls84], [ls85], [ls105], [ls106], [ls107], [.str 256 0], [.str 256 0], [.str 256 0], [.str 256 0], [.str 256 0], [.str 256 0], [.str 256 0], [.str 256 0], [.str 256 0], [.str 256 0], [.str 256 0], [.str 256 0], [.str 256 0], [.str 256 0], [.str 256 0], [.str 256 0], [.str 256 0], [.str 256 0], [.str 256 0], [.str 256 0], [.str 256 0], [.str 256 0], [.str 256 0], [.str 256 0], [.str 256 0], [.str 256 0], [.str 256 0], [.str 256 0], [.str 256 0], [.str 256 0], [.str 256 0], [.str 256 0], [.str 256 0], [.str 256 0], [.str 256 0], [.str 256 0], [.str 256 0], [.str 256 0], [.str 256 0], [.str 256 0], [.str 256 0], [.str 256 0], [.str 256 0], [.str 256 0], [.str 256 0], [.str 256 0], [.str 256 0], [ls18], [.str 256 0], [ls19], [.str 256 0], [ls104], [.str 256 0], [.str 256 0], [ls18], [.str 256 0], [ls19], [.str 256 0], [ls104], [.str 256 0], [.str 256 0]]
def lv109 : CV := .str 246 0xbf24e0f73f4b1c19efdb796d732c602bf436ac0539d1d25126bf35efb9987479030000001a00
def lv110 : CV := .str 224 0xbf24e0f73f4b1c19efdb796d732c602b
def lv111 : CV := .str 70 0xd40519084e2b01c87909e050270020ff030000001900696e705981ebdd588ed25150032b995c030000001800
def lv112 : CV := .str 24 0x1e0000000000000380
/- palimp/node.May, 1999 operations -/
def lc1_0 : List MS := [
  ⟨[.t (.seq 5 ll0)], .bool true⟩,
  ⟨[.t (.seq 5 ll27)], .bool true⟩,
  ⟨[.t (.seq 5 ll26)], .bool true⟩]
theorem lc1_0_ok : chkS (E.orc 40) 109 lc1_0 = true := by kernel_rfl
/- palimp/span.May, 415 operations -/
def lc1_1 : List MS := [
  ⟨[.t (.seq 2 [])], .bool true⟩,
  ⟨[.t (.seq 2 [[I 14, I 74]])], .bool true⟩,
  ⟨[.t (.seq 2 [[I 14, I 19]])], .bool true⟩,
  ⟨[.t (.nilS)], .bool true⟩,
  ⟨[.t (.seq 2 [[I 19, I 74]])], .bool true⟩,
  ⟨[.t (.seq 2 [[I 14, I 15], [I 19, I 25]])], .bool true⟩,
  ⟨[.t (.seq 2 [[I 15, I 19]])], .bool true⟩,
  ⟨[.t (.seq 2 [[I 14, I 15], [I 19, I 24]])], .bool true⟩,
  ⟨[.t (.seq 2 [[I 24, I 74]])], .bool true⟩,
  ⟨[.t (.seq 2 ll93)], .bool true⟩,
  ⟨[.t (.seq 2 [[I 21, I 24]])], .bool true⟩]
theorem lc1_1_ok : chkS (E.orc 40) 112 lc1_1 = true := by kernel_rfl
/- palimp/ptr.Put, 4880 operations -/
def lc1_2 : List MS := [
  ⟨[.t (.seq 6 ll1)], .str 88 0⟩,
  ⟨[.t (.seq 6 ll3)], lv4⟩,
  ⟨[.t (.seq 6 ll6)], lv7⟩,
  ⟨[.t (.seq 6 ll11)], lv12⟩,
  ⟨[.t (.seq 6 ll15)], lv16⟩,
  ⟨[.t (.seq 6 ll30)], lv31⟩,
  ⟨[.t (.seq 6 ll34)], lv35⟩,
  ⟨[.t (.seq 6 ll37)], lv38⟩,
  ⟨[.t (.seq 6 ll43)], lv44⟩,
  ⟨[.t (.seq 6 ll47)], lv48⟩,
  ⟨[.t (.seq 6 ll65)], lv66⟩,
  ⟨[.t (.seq 6 ll68)], lv69⟩,
  ⟨[.t (.seq 6 ll74)], lv75⟩,
  ⟨[.t (.seq 6 ll78)], lv79⟩,
  ⟨[.t (.seq 6 ll97)], lv98⟩,
  ⟨[.t (.seq 6 ll101)], lv102⟩]
theorem lc1_2_ok : chkS (E.orc 40) 130 lc1_2 = true := by kernel_rfl
/- palimp/rec.Node, 3140 operations -/
def lc1_3 : List MS := [
  ⟨[.agg [J 2, J 0, .str 0 0, .str 0 0, J 0], J 0, .t (.seq 6 ll1)], .str 93 2⟩,
  ⟨[.agg [J 1, J 0, .str 1 97, .str 2 26984, J 0], J 2, .t (.seq 6 ll30)], lv32⟩,
  ⟨[.agg [J 1, J 0, .str 1 97, .str 0 0, J 0], J 2, .t (.seq 6 ll30)], lv32⟩,
  ⟨[.agg [J 1, J 0, .str 1 97, .str 0 0, J 0], J 0, .t (.seq 6 ll1)], .str 94 0x61010001⟩]
theorem lc1_3_ok : chkS (E.orc 40) 223 lc1_3 = true := by kernel_rfl
/- palimp/block.Put, 1273 operations -/
def lc1_4 : List MS := [
  ⟨[.agg [J 2, J 1, .str 93 2]], lv2⟩,
  ⟨[.agg [J 3, J 1, lv4]], lv5⟩,
  ⟨[.agg [J 4, J 1, lv8]], lv9⟩,
  ⟨[.agg [J 5, J 1, .str 32 31]], lv10⟩,
  ⟨[.agg [J 6, J 1, lv13]], lv14⟩,
  ⟨[.agg [J 1, J 2, .str 32 26984]], lv29⟩,
  ⟨[.agg [J 2, J 2, lv32]], lv33⟩,
  ⟨[.agg [J 3, J 2, lv35]], lv36⟩,
  ⟨[.agg [J 4, J 2, lv39]], lv40⟩,
  ⟨[.agg [J 5, J 2, lv41]], lv42⟩,
  ⟨[.agg [J 6, J 2, lv45]], lv46⟩,
  ⟨[.agg [J 2, J 2, .str 94 0x61010001]], lv64⟩,
  ⟨[.agg [J 3, J 2, lv66]], lv67⟩,
  ⟨[.agg [J 4, J 2, lv70]], lv71⟩,
  ⟨[.agg [J 5, J 2, lv72]], lv73⟩,
  ⟨[.agg [J 6, J 2, lv76]], lv77⟩,
  ⟨[.agg [J 4, J 3, lv70]], lv92⟩,
  ⟨[.agg [J 5, J 3, lv95]], lv96⟩,
  ⟨[.agg [J 6, J 3, lv99]], lv100⟩]
theorem lc1_4_ok : chkS (E.orc 40) 78 lc1_4 = true := by kernel_rfl
/- palimp/smap.Put, 18592 operations -/
def lc1_5 : List MS := [
  ⟨[J 60, .t (.seq 2 [[I 14, I 19]])], .str 8 31⟩,
  ⟨[J 60, .t (.nilS)], .str 8 0⟩,
  ⟨[J 60, .t (.seq 2 [])], .str 8 0⟩,
  ⟨[J 60, .t (.seq 2 [[I 14, I 15], [I 19, I 25]])], .str 8 2017⟩,
  ⟨[J 60, .t (.seq 2 [[I 15, I 19]])], .str 8 30⟩]
theorem lc1_5_ok : chkS (E.orc 40) 127 lc1_5 = true := by kernel_rfl
/- palimp/smap.Put, 19548 operations -/
def lc1_6 : List MS := [
  ⟨[J 60, .t (.seq 2 [[I 14, I 15], [I 19, I 24]])], .str 8 993⟩,
  ⟨[J 60, .t (.seq 2 ll93)], .str 8 7265⟩,
  ⟨[J 60, .t (.seq 2 [[I 21, I 24]])], .str 8 896⟩]
theorem lc1_6_ok : chkS (E.orc 40) 127 lc1_6 = true := by kernel_rfl
/- palimp/uber.Put, 1108 operations -/
def lc1_7 : List MS := [
  ⟨[.agg [J 1, J 7, J 1, J 18, J 1, .int .u32 (.ofNat 0xc18b8899), .int .u32 (.ofNat 0xcfba61f9), .int .u32 (.ofNat 0x751fce33), .int .u32 (.ofNat 0xde7fedc4)]], lv17⟩,
  ⟨[.agg [J 2, J 7, J 2, J 24, J 2, .int .u32 (.ofNat 0xa0b4ea1a), .int .u32 (.ofNat 0xfcd9e230), .int .u32 (.ofNat 0xc147f66d), .int .u32 (.ofNat 0xa0816dc0)]], lv49⟩,
  ⟨[.agg [J 2, J 7, J 2, J 23, J 2, .int .u32 (.ofNat 0x3db26be0), .int .u32 (.ofNat 0xe2814046), .int .u32 (.ofNat 0x7ee19c2d), .int .u32 (.ofNat 0xd66f4502)]], lv80⟩,
  ⟨[.agg [J 3, J 7, J 3, J 26, J 3, .int .u32 (.ofNat 0x797498b9), .int .u32 (.ofNat 0xef35bf26), .int .u32 (.ofNat 0x51d2d139), .int .u32 (.ofNat 0x5ac36f4)]], lv103⟩]
theorem lc1_7_ok : chkS (E.orc 40) 134 lc1_7 = true := by kernel_rfl
/- palimp/data.Parts, 400 operations -/
def lc1_8 : List MS := [
  ⟨[.str 0 0], J 0⟩,
  ⟨[.str 2 26984], J 1⟩]
theorem lc1_8_ok : chkS (E.orc 40) 139 lc1_8 = true := by kernel_rfl
/- palimp/uber.Take, 2799 operations -/
def lc1_9 : List MS := [
  ⟨[.str 256 0], .tup [.agg [J 0, J 0, J 0, J 0, J 0, .int .u32 (.ofNat 0), .int .u32 (.ofNat 0), .int .u32 (.ofNat 0), .int .u32 (.ofNat 0)], .bool false]⟩,
  ⟨[lv17], .tup [.agg [J 1, J 7, J 1, J 18, J 1, .int .u32 (.ofNat 0xc18b8899), .int .u32 (.ofNat 0xcfba61f9), .int .u32 (.ofNat 0x751fce33), .int .u32 (.ofNat 0xde7fedc4)], .bool true]⟩,
  ⟨[lv49], .tup [.agg [J 2, J 7, J 2, J 24, J 2, .int .u32 (.ofNat 0xa0b4ea1a), .int .u32 (.ofNat 0xfcd9e230), .int .u32 (.ofNat 0xc147f66d), .int .u32 (.ofNat 0xa0816dc0)], .bool true]⟩,
  ⟨[lv80], .tup [.agg [J 2, J 7, J 2, J 23, J 2, .int .u32 (.ofNat 0x3db26be0), .int .u32 (.ofNat 0xe2814046), .int .u32 (.ofNat 0x7ee19c2d), .int .u32 (.ofNat 0xd66f4502)], .bool true]⟩,
  ⟨[lv103], .tup [.agg [J 3, J 7, J 3, J 26, J 3, .int .u32 (.ofNat 0x797498b9), .int .u32 (.ofNat 0xef35bf26), .int .u32 (.ofNat 0x51d2d139), .int .u32 (.ofNat 0x5ac36f4)], .bool true]⟩]
theorem lc1_9_ok : chkS (E.orc 40) 207 lc1_9 = true := by kernel_rfl
/- palimp/span.Less, 18496 operations -/
def lc1_10 : List MP := [
  ⟨[.t (.seq 2 []), .t (.seq 2 [[I 14, I 74]])], .t (.nilS), []⟩,
  ⟨[.t (.seq 2 [[I 14, I 74]]), .t (.seq 2 [])], .tok 0 2 0 1, [.row 2 1 [[I 14, I 74]] false]⟩,
  ⟨[.t (.seq 2 []), .t (.seq 2 [[I 14, I 19]])], .t (.nilS), []⟩,
  ⟨[.t (.nilS), .t (.nilS)], .t (.nilS), []⟩,
  ⟨[.t (.seq 2 [[I 14, I 19]]), .t (.seq 2 [[I 14, I 74]])], .t (.nilS), []⟩,
  ⟨[.t (.nilS), .t (.seq 2 [[I 14, I 74]])], .t (.nilS), []⟩,
  ⟨[.t (.seq 2 [[I 14, I 74]]), .t (.seq 2 [[I 14, I 19]])], .tok 0 2 0 1, [.row 2 1 [[I 19, I 74]] false]⟩,
  ⟨[.t (.seq 2 [[I 19, I 74]]), .t (.seq 2 [])], .tok 0 2 0 1, [.row 2 1 [[I 19, I 74]] false]⟩,
  ⟨[.t (.seq 2 [[I 14, I 19]]), .t (.seq 2 [[I 14, I 15], [I 19, I 25]])], .tok 0 2 0 1, [.row 2 1 [[I 15, I 19]] false]⟩,
  ⟨[.t (.seq 2 []), .t (.seq 2 [[I 14, I 15], [I 19, I 25]])], .t (.nilS), []⟩,
  ⟨[.t (.nilS), .t (.seq 2 [[I 15, I 19]])], .t (.nilS), []⟩,
  ⟨[.t (.seq 2 [[I 14, I 15], [I 19, I 25]]), .t (.seq 2 [[I 14, I 74]])], .t (.nilS), []⟩,
  ⟨[.t (.seq 2 [[I 15, I 19]]), .t (.seq 2 [[I 14, I 74]])], .t (.nilS), []⟩,
  ⟨[.t (.seq 2 [[I 14, I 74]]), .t (.seq 2 [[I 14, I 15], [I 19, I 25]])], .tok 0 2 0 2, [.row 2 2 [[I 15, I 19], [I 25, I 74]] false]⟩,
  ⟨[.t (.seq 2 [[I 15, I 19], [I 25, I 74]]), .t (.seq 2 [[I 15, I 19]])], .tok 0 2 0 1, [.row 2 1 [[I 25, I 74]] false]⟩,
  ⟨[.t (.seq 2 [[I 25, I 74]]), .t (.nilS)], .tok 0 2 0 1, [.row 2 1 [[I 25, I 74]] false]⟩,
  ⟨[.t (.seq 2 [[I 25, I 74]]), .t (.seq 2 [])], .tok 0 2 0 1, [.row 2 1 [[I 25, I 74]] false]⟩,
  ⟨[.t (.seq 2 [[I 14, I 19]]), .t (.seq 2 [[I 14, I 15], [I 19, I 24]])], .tok 0 2 0 1, [.row 2 1 [[I 15, I 19]] false]⟩,
  ⟨[.t (.seq 2 []), .t (.seq 2 [[I 14, I 15], [I 19, I 24]])], .t (.nilS), []⟩,
  ⟨[.t (.seq 2 [[I 14, I 15], [I 19, I 24]]), .t (.seq 2 [[I 14, I 74]])], .t (.nilS), []⟩,
  ⟨[.t (.seq 2 [[I 14, I 74]]), .t (.seq 2 [[I 14, I 15], [I 19, I 24]])], .tok 0 2 0 2, [.row 2 2 [[I 15, I 19], [I 24, I 74]] false]⟩,
  ⟨[.t (.seq 2 [[I 15, I 19], [I 24, I 74]]), .t (.seq 2 [[I 15, I 19]])], .tok 0 2 0 1, [.row 2 1 [[I 24, I 74]] false]⟩,
  ⟨[.t (.seq 2 [[I 24, I 74]]), .t (.nilS)], .tok 0 2 0 1, [.row 2 1 [[I 24, I 74]] false]⟩,
  ⟨[.t (.seq 2 [[I 24, I 74]]), .t (.seq 2 [])], .tok 0 2 0 1, [.row 2 1 [[I 24, I 74]] false]⟩,
  ⟨[.t (.seq 2 [[I 14, I 15], [I 19, I 24]]), .t (.seq 2 ll93)], .tok 0 2 0 1, [.row 2 1 [[I 21, I 24]] false]⟩,
  ⟨[.t (.seq 2 [[I 15, I 19]]), .t (.seq 2 ll93)], .tok 0 2 0 1, [.row 2 1 [[I 15, I 19]] false]⟩,
  ⟨[.t (.seq 2 [[I 15, I 19]]), .t (.seq 2 [[I 21, I 24]])], .tok 0 2 0 1, [.row 2 1 [[I 15, I 19]] false]⟩,
  ⟨[.t (.seq 2 ll93), .t (.seq 2 [[I 14, I 74]])], .t (.nilS), []⟩,
  ⟨[.t (.seq 2 [[I 21, I 24]]), .t (.seq 2 [[I 14, I 74]])], .t (.nilS), []⟩,
  ⟨[.t (.seq 2 [[I 14, I 74]]), .t (.seq 2 ll93)], .tok 0 2 0 3, [.row 2 3 ll94 false]⟩,
  ⟨[.t (.seq 2 ll94), .t (.seq 2 [[I 21, I 24]])], .tok 0 2 0 2, [.row 2 2 [[I 15, I 19], [I 27, I 74]] false]⟩,
  ⟨[.t (.seq 2 [[I 15, I 19], [I 27, I 74]]), .t (.seq 2 [[I 15, I 19]])], .tok 0 2 0 1, [.row 2 1 [[I 27, I 74]] false]⟩,
  ⟨[.t (.seq 2 [[I 27, I 74]]), .t (.seq 2 [])], .tok 0 2 0 1, [.row 2 1 [[I 27, I 74]] false]⟩]
theorem lc1_10_ok : chkP (E.orc 40) 124 lc1_10 = true := by kernel_rfl
/- palimp/span.Both, 4092 operations -/
def lc1_11 : List MP := [
  ⟨[.t (.seq 2 []), .t (.seq 2 [])], .t (.nilS), []⟩,
  ⟨[.t (.nilS), .t (.seq 2 [])], .t (.nilS), []⟩,
  ⟨[.t (.seq 2 [[I 14, I 19]]), .t (.nilS)], .t (.nilS), []⟩,
  ⟨[.t (.seq 2 [[I 14, I 19]]), .t (.seq 2 [])], .t (.nilS), []⟩,
  ⟨[.t (.seq 2 [[I 14, I 15], [I 19, I 25]]), .t (.seq 2 [[I 15, I 19]])], .t (.nilS), []⟩,
  ⟨[.t (.seq 2 [[I 14, I 25]]), .t (.nilS)], .t (.nilS), []⟩,
  ⟨[.t (.seq 2 [[I 14, I 15], [I 19, I 24]]), .t (.seq 2 [[I 15, I 19]])], .t (.nilS), []⟩,
  ⟨[.t (.seq 2 [[I 14, I 24]]), .t (.nilS)], .t (.nilS), []⟩,
  ⟨[.t (.seq 2 [[I 14, I 24]]), .t (.seq 2 [])], .t (.nilS), []⟩,
  ⟨[.t (.seq 2 ll93), .t (.seq 2 [[I 21, I 24]])], .t (.nilS), []⟩,
  ⟨[.t (.seq 2 [[I 14, I 15], [I 19, I 27]]), .t (.seq 2 [[I 15, I 19]])], .t (.nilS), []⟩]
theorem lc1_11_ok : chkP (E.orc 40) 174 lc1_11 = true := by kernel_rfl
/- palimp/span.Add, 3226 operations -/
def lc1_12 : List MP := [
  ⟨[.t (.seq 2 []), .t (.seq 2 [])], .t (.nilS), []⟩,
  ⟨[.t (.seq 2 [[I 14, I 19]]), .t (.nilS)], .tok 0 2 0 1, [.row 2 1 [[I 14, I 19]] false]⟩,
  ⟨[.t (.seq 2 [[I 14, I 19]]), .t (.seq 2 [])], .tok 0 2 0 1, [.row 2 1 [[I 14, I 19]] false]⟩,
  ⟨[.t (.seq 2 [[I 14, I 15], [I 19, I 25]]), .t (.seq 2 [[I 15, I 19]])], .tok 0 2 0 1, [.row 2 1 [[I 14, I 25]] false]⟩,
  ⟨[.t (.seq 2 [[I 14, I 15], [I 19, I 24]]), .t (.seq 2 [[I 15, I 19]])], .tok 0 2 0 1, [.row 2 1 [[I 14, I 24]] false]⟩,
  ⟨[.t (.seq 2 ll93), .t (.seq 2 [[I 21, I 24]])], .tok 0 2 0 2, [.row 2 2 [[I 14, I 15], [I 19, I 27]] false]⟩]
theorem lc1_12_ok : chkP (E.orc 40) 175 lc1_12 = true := by kernel_rfl
/- palimp/ptr.Take, 10763 operations -/
def lc1_13 : List MP := [
  ⟨[lv28, J 3], .tup [.tok 0 6 0 3, .str 4 0, .bool true], [.row 6 3 ll11 false]⟩,
  ⟨[lv7, J 1], .tup [.tok 0 6 0 1, .str 0 0, .bool true], [.row 6 1 ll6 false]⟩,
  ⟨[lv4, J 8], .tup [.tok 0 6 0 8, .str 0 0, .bool true], [.row 6 8 ll3 false]⟩,
  ⟨[.str 88 0, J 4], .tup [.tok 0 6 0 4, .str 0 0, .bool true], [.row 6 4 ll1 false]⟩,
  ⟨[.str 246 0, J 1], .tup [.tok 0 6 0 1, .str 224 0, .bool true], [.row 6 1 ll58 false]⟩,
  ⟨[lv59, J 1], .tup [.tok 0 6 0 1, lv60, .bool true], [.row 6 1 ll15 false]⟩,
  ⟨[lv61, J 1], .tup [.tok 0 6 0 1, lv62, .bool true], [.row 6 1 ll47 false]⟩,
  ⟨[lv63, J 3], .tup [.tok 0 6 0 3, .str 4 0, .bool true], [.row 6 3 ll43 false]⟩,
  ⟨[lv38, J 1], .tup [.tok 0 6 0 1, .str 0 0, .bool true], [.row 6 1 ll37 false]⟩,
  ⟨[lv35, J 8], .tup [.tok 0 6 0 8, .str 0 0, .bool true], [.row 6 8 ll34 false]⟩,
  ⟨[lv31, J 4], .tup [.tok 0 6 0 4, .str 0 0, .bool true], [.row 6 4 ll30 false]⟩,
  ⟨[lv89, J 1], .tup [.tok 0 6 0 1, lv90, .bool true], [.row 6 1 ll78 false]⟩,
  ⟨[lv91, J 3], .tup [.tok 0 6 0 3, .str 4 0, .bool true], [.row 6 3 ll74 false]⟩,
  ⟨[lv69, J 1], .tup [.tok 0 6 0 1, .str 0 0, .bool true], [.row 6 1 ll68 false]⟩,
  ⟨[lv66, J 8], .tup [.tok 0 6 0 8, .str 0 0, .bool true], [.row 6 8 ll65 false]⟩,
  ⟨[lv109, J 1], .tup [.tok 0 6 0 1, lv110, .bool true], [.row 6 1 ll101 false]⟩,
  ⟨[lv111, J 3], .tup [.tok 0 6 0 3, .str 4 0, .bool true], [.row 6 3 ll97 false]⟩]
theorem lc1_13_ok : chkP (E.orc 40) 252 lc1_13 = true := by kernel_rfl
/- palimp/rec.TakeNode, 4995 operations -/
def lc1_14 : List MP := [
  ⟨[.str 93 2], .tup [.agg [J 2, J 0, .str 0 0, .str 0 0, J 0], J 0, .tok 0 6 0 4, .bool true], [.row 6 4 ll1 false]⟩,
  ⟨[lv32], .tup [.agg [J 1, J 0, .str 1 97, .str 0 0, J 0], J 2, .tok 0 6 0 4, .bool true], [.row 6 4 ll30 false]⟩,
  ⟨[.str 94 0x61010001], .tup [.agg [J 1, J 0, .str 1 97, .str 0 0, J 0], J 0, .tok 0 6 0 4, .bool true], [.row 6 4 ll1 false]⟩]
theorem lc1_14_ok : chkP (E.orc 40) 318 lc1_14 = true := by kernel_rfl
/- palimp/smap.Take, 11545 operations -/
def lc1_15 : List MP := [
  ⟨[J 60, .str 32 31], .tup [.tok 0 2 0 1, .str 24 0, .bool true], [.row 2 1 [[I 14, I 19]] false]⟩,
  ⟨[J 60, .str 24 0], .tup [.t (.nilS), .str 16 0, .bool true], []⟩,
  ⟨[J 60, .str 16 0], .tup [.t (.nilS), .str 8 0, .bool true], []⟩,
  ⟨[J 60, .str 8 0], .tup [.t (.nilS), .str 0 0, .bool true], []⟩,
  ⟨[J 60, lv41], .tup [.tok 0 2 0 2, .str 24 30, .bool true], [.row 2 2 [[I 14, I 15], [I 19, I 25]] false]⟩,
  ⟨[J 60, .str 24 30], .tup [.tok 0 2 0 1, .str 16 0, .bool true], [.row 2 1 [[I 15, I 19]] false]⟩,
  ⟨[J 60, lv72], .tup [.tok 0 2 0 2, .str 24 30, .bool true], [.row 2 2 [[I 14, I 15], [I 19, I 24]] false]⟩,
  ⟨[J 60, lv95], .tup [.tok 0 2 0 3, lv112, .bool true], [.row 2 3 ll93 false]⟩,
  ⟨[J 60, lv112], .tup [.tok 0 2 0 1, .str 16 30, .bool true], [.row 2 1 [[I 21, I 24]] false]⟩,
  ⟨[J 60, .str 16 30], .tup [.tok 0 2 0 1, .str 8 0, .bool true], [.row 2 1 [[I 15, I 19]] false]⟩]
theorem lc1_15_ok : chkP (E.orc 40) 248 lc1_15 = true := by kernel_rfl
noncomputable def lM1 : Memo := ⟨[109, 112, 124, 174, 175, 130, 223, 78, 127, 134, 139, 252, 318, 248, 207], [(109, lc1_0), (112, lc1_1), (130, lc1_2), (223, lc1_3), (78, lc1_4), (127, lc1_5), (127, lc1_6), (134, lc1_7), (139, lc1_8), (207, lc1_9)], [(124, lc1_10), (174, lc1_11), (175, lc1_12), (252, lc1_13), (318, lc1_14), (248, lc1_15)]⟩
noncomputable def lE2 : Env := E.withM 40 lM1
theorem lE2_ok : EnvOk Proofs.Tryz.prog lE2 := withM_ok E_ok ⟨lc1_0_ok, lc1_1_ok, lc1_2_ok, lc1_3_ok, lc1_4_ok, lc1_5_ok, lc1_6_ok, lc1_7_ok, lc1_8_ok, lc1_9_ok, trivial⟩ ⟨lc1_10_ok, lc1_11_ok, lc1_12_ok, lc1_13_ok, lc1_14_ok, lc1_15_ok, trivial⟩
/- palimp/pool.Create, 26579 operations -/
def lc2_0 : List MP := [
  ⟨[J 60, J 7], .tup [.agg [.tok 0 1 0 88, .t (.nilS), J 0, J 0, .bool false, J 18, J 1, .int .u32 (.ofNat 0xc18b8899), .int .u32 (.ofNat 0xcfba61f9), .int .u32 (.ofNat 0x751fce33), .int .u32 (.ofNat 0xde7fedc4), J 1, J 2, J 7, J 16, J 1, .int .u32 (.ofNat 0x9770367c), .int .u32 (.ofNat 0x25659d11), .int .u32 (.ofNat 0xe1c08a78), .int .u32 (.ofNat 0x9021ca78), J 17, J 1, .int .u32 (.ofNat 0x1f200006), .int .u32 (.ofNat 0xa8e0017f), .int .u32 (.ofNat 0x1c003080), .int .u32 (.ofNat 0xb4042860), J 0, J 0, .int .u32 (.ofNat 0), .int .u32 (.ofNat 0), .int .u32 (.ofNat 0), .int .u32 (.ofNat 0), J 0, .tok 1 2 0 1, .t (.nilS), .t (.nilS), .tok 2 2 0 0, J 1, J 1, .tok 3 5 0 1, .bool false], .bool true], [.row 1 88 ll25 false, .row 2 1 [[I 14, I 19]] false, .row 2 0 [] false, .row 5 1 [[I 1, I 1, I 0, I 0, .seq 5 ll0]] true]⟩]
theorem lc2_0_ok : chkP (lE2.orc 40) 13 lc2_0 = true := by kernel_rfl
/- palimp/play.Do, 64537 operations -/
def lc2_1 : List MP := [
  ⟨[.agg [.t (.seq 1 ll25), .t (.seq 2 []), J 0, J 0, .bool false, J 18, J 1, .int .u32 (.ofNat 0xc18b8899), .int .u32 (.ofNat 0xcfba61f9), .int .u32 (.ofNat 0x751fce33), .int .u32 (.ofNat 0xde7fedc4), J 1, J 2, J 7, J 16, J 1, .int .u32 (.ofNat 0x9770367c), .int .u32 (.ofNat 0x25659d11), .int .u32 (.ofNat 0xe1c08a78), .int .u32 (.ofNat 0x9021ca78), J 17, J 1, .int .u32 (.ofNat 0x1f200006), .int .u32 (.ofNat 0xa8e0017f), .int .u32 (.ofNat 0x1c003080), .int .u32 (.ofNat 0xb4042860), J 0, J 0, .int .u32 (.ofNat 0), .int .u32 (.ofNat 0), .int .u32 (.ofNat 0), .int .u32 (.ofNat 0), J 0, .t (.seq 2 [[I 14, I 19]]), .t (.seq 2 []), .t (.seq 2 []), .t (.seq 2 []), J 1, J 1, .t (.seq 5 [[I 1, I 1, I 0, I 0, .seq 5 ll27]]), .bool false], .agg [J 15, J 0, J 0, J 0, J 0, .str 0 0, .str 0 0, .str 0 0, .t (.nilS)]], .tup [.agg [.tok 0 1 0 88, .t (.nilS), J 0, J 0, .bool false, J 24, J 2, .int .u32 (.ofNat 0xa0b4ea1a), .int .u32 (.ofNat 0xfcd9e230), .int .u32 (.ofNat 0xc147f66d), .int .u32 (.ofNat 0xa0816dc0), J 2, J 2, J 7, J 22, J 2, .int .u32 (.ofNat 0x24fffd77), .int .u32 (.ofNat 0x9a56d25), .int .u32 (.ofNat 0xec520d4e), .int .u32 (.ofNat 0x19c28e07), J 23, J 2, .int .u32 (.ofNat 0xff20000e), .int .u32 (.ofNat 0x8ce00370), .int .u32 (.ofNat 0x76006dc7), .int .u32 (.ofNat 0x96094640), J 0, J 0, .int .u32 (.ofNat 0), .int .u32 (.ofNat 0), .int .u32 (.ofNat 0), .int .u32 (.ofNat 0), J 0, .tok 1 2 0 2, .tok 2 2 0 1, .t (.nilS), .tok 3 2 0 0, J 2, J 2, .tok 4 5 0 1, .bool false], .agg [J 0, .str 0 0, J 0, J 0, J 0, J 0, .t (.nilS), J 2]], [.row 1 88 ll57 false, .row 2 2 [[I 14, I 15], [I 19, I 25]] false, .row 2 1 [[I 15, I 19]] true, .row 2 0 [] false, .row 5 1 [[I 1, I 1, I 0, I 0, .seq 5 ll27]] true]⟩]
theorem lc2_1_ok : chkP (lE2.orc 40) 14 lc2_1 = true := by kernel_rfl
/- palimp/play.Do, 47885 operations -/
def lc2_2 : List MP := [
  ⟨[.agg [.t (.seq 1 ll57), .t (.nilS), J 0, J 0, .bool false, J 0, J 0, .int .u32 (.ofNat 0), .int .u32 (.ofNat 0), .int .u32 (.ofNat 0), .int .u32 (.ofNat 0), J 0, J 0, J 0, J 0, J 0, .int .u32 (.ofNat 0), .int .u32 (.ofNat 0), .int .u32 (.ofNat 0), .int .u32 (.ofNat 0), J 0, J 0, .int .u32 (.ofNat 0), .int .u32 (.ofNat 0), .int .u32 (.ofNat 0), .int .u32 (.ofNat 0), J 0, J 0, .int .u32 (.ofNat 0), .int .u32 (.ofNat 0), .int .u32 (.ofNat 0), .int .u32 (.ofNat 0), J 0, .t (.nilS), .t (.nilS), .t (.nilS), .t (.nilS), J 0, J 0, .t (.nilS), .bool false], .agg [J 18, J 0, J 0, J 0, J 0, .str 0 0, .str 0 0, .str 0 0, .t (.nilS)]], .tup [.agg [.tok 0 1 0 88, .tok 1 2 0 0, J 0, J 0, .bool false, J 24, J 2, .int .u32 (.ofNat 0xa0b4ea1a), .int .u32 (.ofNat 0xfcd9e230), .int .u32 (.ofNat 0xc147f66d), .int .u32 (.ofNat 0xa0816dc0), J 2, J 2, J 7, J 22, J 2, .int .u32 (.ofNat 0x24fffd77), .int .u32 (.ofNat 0x9a56d25), .int .u32 (.ofNat 0xec520d4e), .int .u32 (.ofNat 0x19c28e07), J 23, J 2, .int .u32 (.ofNat 0xff20000e), .int .u32 (.ofNat 0x8ce00370), .int .u32 (.ofNat 0x76006dc7), .int .u32 (.ofNat 0x96094640), J 0, J 0, .int .u32 (.ofNat 0), .int .u32 (.ofNat 0), .int .u32 (.ofNat 0), .int .u32 (.ofNat 0), J 0, .t (.seq 2 [[I 14, I 15], [I 19, I 25]]), .t (.seq 2 [[I 15, I 19]]), .t (.nilS), .t (.nilS), J 2, J 2, .t (.seq 5 [[I 1, I 1, I 0, I 0, .seq 5 ll27]]), .bool false], .agg [J 0, .str 0 0, J 0, J 0, J 0, J 0, .t (.nilS), J 2]], [.row 1 88 ll57 false, .row 2 0 [] false]⟩]
theorem lc2_2_ok : chkP (lE2.orc 40) 14 lc2_2 = true := by kernel_rfl
/- palimp/play.Do, 62747 operations -/
def lc2_3 : List MP := [
  ⟨[.agg [.t (.seq 1 ll25), .t (.seq 2 []), J 0, J 7, .bool false, J 18, J 1, .int .u32 (.ofNat 0xc18b8899), .int .u32 (.ofNat 0xcfba61f9), .int .u32 (.ofNat 0x751fce33), .int .u32 (.ofNat 0xde7fedc4), J 1, J 2, J 7, J 16, J 1, .int .u32 (.ofNat 0x9770367c), .int .u32 (.ofNat 0x25659d11), .int .u32 (.ofNat 0xe1c08a78), .int .u32 (.ofNat 0x9021ca78), J 17, J 1, .int .u32 (.ofNat 0x1f200006), .int .u32 (.ofNat 0xa8e0017f), .int .u32 (.ofNat 0x1c003080), .int .u32 (.ofNat 0xb4042860), J 0, J 0, .int .u32 (.ofNat 0), .int .u32 (.ofNat 0), .int .u32 (.ofNat 0), .int .u32 (.ofNat 0), J 0, .t (.seq 2 [[I 14, I 19]]), .t (.seq 2 []), .t (.seq 2 []), .t (.seq 2 []), J 1, J 1, .t (.seq 5 [[I 1, I 1, I 0, I 0, .seq 5 ll26]]), .bool false], .agg [J 15, J 0, J 0, J 0, J 0, .str 0 0, .str 0 0, .str 0 0, .t (.nilS)]], .tup [.agg [.tok 0 1 0 88, .tok 1 2 0 2, J 0, J 0, .bool true, J 18, J 1, .int .u32 (.ofNat 0xc18b8899), .int .u32 (.ofNat 0xcfba61f9), .int .u32 (.ofNat 0x751fce33), .int .u32 (.ofNat 0xde7fedc4), J 1, J 2, J 7, J 16, J 1, .int .u32 (.ofNat 0x9770367c), .int .u32 (.ofNat 0x25659d11), .int .u32 (.ofNat 0xe1c08a78), .int .u32 (.ofNat 0x9021ca78), J 17, J 1, .int .u32 (.ofNat 0x1f200006), .int .u32 (.ofNat 0xa8e0017f), .int .u32 (.ofNat 0x1c003080), .int .u32 (.ofNat 0xb4042860), J 0, J 0, .int .u32 (.ofNat 0), .int .u32 (.ofNat 0), .int .u32 (.ofNat 0), .int .u32 (.ofNat 0), J 0, .tok 2 2 0 1, .tok 3 2 0 0, .tok 4 2 0 0, .tok 5 2 0 0, J 1, J 1, .tok 6 5 0 1, .bool false], .agg [J 13, .str 0 0, J 0, J 0, J 0, J 0, .t (.nilS), J 0]], [.row 1 88 ll86 false, .row 2 2 [[I 3, ls87], [I 77, ls87]] false, .row 2 1 [[I 14, I 19]] false, .row 2 0 [] false, .row 2 0 [] false, .row 2 0 [] false, .row 5 1 [[I 1, I 1, I 0, I 0, .seq 5 ll26]] false]⟩]
theorem lc2_3_ok : chkP (lE2.orc 40) 14 lc2_3 = true := by kernel_rfl
/- palimp/play.Do, 46412 operations -/
def lc2_4 : List MP := [
  ⟨[.agg [.t (.seq 1 ll88), .t (.nilS), J 0, J 0, .bool false, J 0, J 0, .int .u32 (.ofNat 0), .int .u32 (.ofNat 0), .int .u32 (.ofNat 0), .int .u32 (.ofNat 0), J 0, J 0, J 0, J 0, J 0, .int .u32 (.ofNat 0), .int .u32 (.ofNat 0), .int .u32 (.ofNat 0), .int .u32 (.ofNat 0), J 0, J 0, .int .u32 (.ofNat 0), .int .u32 (.ofNat 0), .int .u32 (.ofNat 0), .int .u32 (.ofNat 0), J 0, J 0, .int .u32 (.ofNat 0), .int .u32 (.ofNat 0), .int .u32 (.ofNat 0), .int .u32 (.ofNat 0), J 0, .t (.nilS), .t (.nilS), .t (.nilS), .t (.nilS), J 0, J 0, .t (.nilS), .bool false], .agg [J 18, J 0, J 0, J 0, J 0, .str 0 0, .str 0 0, .str 0 0, .t (.nilS)]], .tup [.agg [.tok 0 1 0 88, .tok 1 2 0 0, J 0, J 0, .bool false, J 23, J 2, .int .u32 (.ofNat 0x3db26be0), .int .u32 (.ofNat 0xe2814046), .int .u32 (.ofNat 0x7ee19c2d), .int .u32 (.ofNat 0xd66f4502), J 2, J 2, J 7, J 21, J 2, .int .u32 (.ofNat 0x5c992b02), .int .u32 (.ofNat 0x5051d24f), .int .u32 (.ofNat 0x58dde3a1), .int .u32 (.ofNat 0x596fc3c9), J 22, J 2, .int .u32 (.ofNat 0xff20000a), .int .u32 (.ofNat 0x8ce00278), .int .u32 (.ofNat 0x76004f43), .int .u32 (.ofNat 0x9606bb40), J 0, J 0, .int .u32 (.ofNat 0), .int .u32 (.ofNat 0), .int .u32 (.ofNat 0), .int .u32 (.ofNat 0), J 0, .t (.seq 2 [[I 14, I 15], [I 19, I 24]]), .t (.seq 2 [[I 15, I 19]]), .t (.nilS), .t (.nilS), J 2, J 2, .t (.seq 5 [[I 1, I 1, I 0, I 0, .seq 5 ll26]]), .bool false], .agg [J 0, .str 0 0, J 0, J 0, J 0, J 0, .t (.nilS), J 2]], [.row 1 88 ll88 false, .row 2 0 [] false]⟩]
theorem lc2_4_ok : chkP (lE2.orc 40) 14 lc2_4 = true := by kernel_rfl
/- palimp/play.Do, 86094 operations -/
def lc2_5 : List MP := [
  ⟨[.agg [.t (.seq 1 ll88), .t (.seq 2 []), J 0, J 0, .bool false, J 23, J 2, .int .u32 (.ofNat 0x3db26be0), .int .u32 (.ofNat 0xe2814046), .int .u32 (.ofNat 0x7ee19c2d), .int .u32 (.ofNat 0xd66f4502), J 2, J 2, J 7, J 21, J 2, .int .u32 (.ofNat 0x5c992b02), .int .u32 (.ofNat 0x5051d24f), .int .u32 (.ofNat 0x58dde3a1), .int .u32 (.ofNat 0x596fc3c9), J 22, J 2, .int .u32 (.ofNat 0xff20000a), .int .u32 (.ofNat 0x8ce00278), .int .u32 (.ofNat 0x76004f43), .int .u32 (.ofNat 0x9606bb40), J 0, J 0, .int .u32 (.ofNat 0), .int .u32 (.ofNat 0), .int .u32 (.ofNat 0), .int .u32 (.ofNat 0), J 0, .t (.seq 2 [[I 14, I 15], [I 19, I 24]]), .t (.seq 2 [[I 15, I 19]]), .t (.seq 2 []), .t (.seq 2 []), J 2, J 2, .t (.seq 5 [[I 1, I 1, I 0, I 0, .seq 5 ll26]]), .bool false], .agg [J 15, J 0, J 0, J 0, J 0, .str 0 0, .str 0 0, .str 0 0, .t (.nilS)]], .tup [.agg [.tok 0 1 0 88, .t (.nilS), J 0, J 0, .bool false, J 26, J 3, .int .u32 (.ofNat 0x797498b9), .int .u32 (.ofNat 0xef35bf26), .int .u32 (.ofNat 0x51d2d139), .int .u32 (.ofNat 0x5ac36f4), J 3, J 2, J 7, J 24, J 3, .int .u32 (.ofNat 0x5c992b03), .int .u32 (.ofNat 0x5051d28e), .int .u32 (.ofNat 0x58ddeb81), .int .u32 (.ofNat 0x59706e69), J 25, J 3, .int .u32 (.ofNat 0xff200027), .int .u32 (.ofNat 0x50e00979), .int .u32 (.ofNat 0xc8012b4e), .int .u32 (.ofNat 0x81905d4), J 0, J 0, .int .u32 (.ofNat 0), .int .u32 (.ofNat 0), .int .u32 (.ofNat 0), .int .u32 (.ofNat 0), J 0, .tok 1 2 0 3, .tok 2 2 0 1, .tok 3 2 0 1, .tok 4 2 0 0, J 3, J 3, .tok 5 5 0 1, .bool false], .agg [J 0, .str 0 0, J 0, J 0, J 0, J 0, .t (.nilS), J 3]], [.row 1 88 ll108 false, .row 2 3 ll93 false, .row 2 1 [[I 21, I 24]] true, .row 2 1 [[I 15, I 19]] false, .row 2 0 [] false, .row 5 1 [[I 1, I 1, I 0, I 0, .seq 5 ll26]] true]⟩]
theorem lc2_5_ok : chkP (lE2.orc 40) 14 lc2_5 = true := by kernel_rfl
/- palimp/play.Do, 55084 operations -/
def lc2_6 : List MP := [
  ⟨[.agg [.t (.seq 1 ll108), .t (.nilS), J 0, J 0, .bool false, J 26, J 3, .int .u32 (.ofNat 0x797498b9), .int .u32 (.ofNat 0xef35bf26), .int .u32 (.ofNat 0x51d2d139), .int .u32 (.ofNat 0x5ac36f4), J 3, J 2, J 7, J 24, J 3, .int .u32 (.ofNat 0x5c992b03), .int .u32 (.ofNat 0x5051d28e), .int .u32 (.ofNat 0x58ddeb81), .int .u32 (.ofNat 0x59706e69), J 25, J 3, .int .u32 (.ofNat 0xff200027), .int .u32 (.ofNat 0x50e00979), .int .u32 (.ofNat 0xc8012b4e), .int .u32 (.ofNat 0x81905d4), J 0, J 0, .int .u32 (.ofNat 0), .int .u32 (.ofNat 0), .int .u32 (.ofNat 0), .int .u32 (.ofNat 0), J 0, .t (.seq 2 ll93), .t (.seq 2 [[I 21, I 24]]), .t (.seq 2 [[I 15, I 19]]), .t (.seq 2 []), J 3, J 3, .t (.seq 5 [[I 1, I 1, I 0, I 0, .seq 5 ll26]]), .bool false], .agg [J 18, J 0, J 0, J 0, J 0, .str 0 0, .str 0 0, .str 0 0, .t (.nilS)]], .tup [.agg [.tok 0 1 0 88, .tok 1 2 0 0, J 0, J 0, .bool false, J 26, J 3, .int .u32 (.ofNat 0x797498b9), .int .u32 (.ofNat 0xef35bf26), .int .u32 (.ofNat 0x51d2d139), .int .u32 (.ofNat 0x5ac36f4), J 3, J 2, J 7, J 24, J 3, .int .u32 (.ofNat 0x5c992b03), .int .u32 (.ofNat 0x5051d28e), .int .u32 (.ofNat 0x58ddeb81), .int .u32 (.ofNat 0x59706e69), J 25, J 3, .int .u32 (.ofNat 0xff200027), .int .u32 (.ofNat 0x50e00979), .int .u32 (.ofNat 0xc8012b4e), .int .u32 (.ofNat 0x81905d4), J 0, J 0, .int .u32 (.ofNat 0), .int .u32 (.ofNat 0), .int .u32 (.ofNat 0), .int .u32 (.ofNat 0), J 0, .t (.seq 2 ll93), .t (.seq 2 [[I 21, I 24]]), .t (.seq 2 [[I 15, I 19]]), .t (.nilS), J 3, J 3, .t (.seq 5 [[I 1, I 1, I 0, I 0, .seq 5 ll26]]), .bool false], .agg [J 0, .str 0 0, J 0, J 0, J 0, J 0, .t (.nilS), J 3]], [.row 1 88 ll108 false, .row 2 0 [] false]⟩]
theorem lc2_6_ok : chkP (lE2.orc 40) 14 lc2_6 = true := by kernel_rfl
noncomputable def lM2 : Memo := ⟨[13, 14], [], [(13, lc2_0), (14, lc2_1), (14, lc2_2), (14, lc2_3), (14, lc2_4), (14, lc2_5), (14, lc2_6)]⟩
noncomputable def lE3 : Env := lE2.withM 40 lM2
theorem lE3_ok : EnvOk Proofs.Tryz.prog lE3 := withM_ok lE2_ok trivial ⟨lc2_0_ok, lc2_1_ok, lc2_2_ok, lc2_3_ok, lc2_4_ok, lc2_5_ok, lc2_6_ok, trivial⟩
theorem run_TopLate0 : isS (lE3.scalN (lE3.orc 39) 5 []) (.bool true) = true := by kernel_rfl
theorem run_TopLate : lE3.scalN (lE3.orc 39) 5 [] = some (.bool true) := isS_eq run_TopLate0
end Go.Top
